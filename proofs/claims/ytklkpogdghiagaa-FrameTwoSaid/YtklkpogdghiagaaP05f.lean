/- Layer 5: the law FrameTells on typed data. -/
import Derived.Test.YtklkpogdghiagaaP05d
import Derived.Test.YtklkpogdghiagaaD053
set_option linter.unusedSimpArgs false
set_option linter.unusedVariables false
namespace Go.Proofs.Ytklkpogdghiagaa
open Go.SX

theorem FrameTells_form (p0 : Msg) (p1 : Int) (p2 : Int) (p3 : List Int) : l05_FrameTells p0 p1 p2 p3 =
  (if !l05_awake then
    some (false)
  else
    (putI p0).bind fun v6 =>
    orExit (
      if decide (v6.2.1 = (0 : Int)) then
        (subO v6.2.2 (0 : Int) v6.1).bind fun v10 =>
        (frame_Read v10).bind fun v11 =>
        (remO (w64 p1) (v6.1 - (0 : Int))).bind fun v15 =>
        (idxvO (0 : Int) v6.1 v15).bind fun v16 =>
        (getO v6.2.2 v16).bind fun v17 =>
        (remO p2 (8 : Int)).bind fun v18 =>
        (shlO .u8 (1 : Int) (wu64 v18)).bind fun v20 =>
        (idxvO (0 : Int) v6.1 v15).bind fun v22 =>
        (setO v6.2.2 v22 (bXor .u8 v17 v20)).bind fun v23 =>
        (subO v23 (0 : Int) v6.1).bind fun v24 =>
        (frame_Read v24).bind fun v25 =>
        if (!decide (v11.2 = (0 : Int))) || ((!(@decide (v11.1 = p0) (Ty.dec tMsg _ _))) || ((!decide (v25.2 = (5 : Int))) || (!(@decide (v25.1 = (Msg.mk (0 : Int) (0 : Int) (0 : Int) (0 : Int) (0 : Int) (0 : Int) false (0 : Int) (0 : Int))) (Ty.dec tMsg _ _))))) then
          some (Sum.inr (false))
        else
          some (Sum.inl ())
      else
        some (Sum.inl ()) : Option (Unit ⊕ Bool)) fun v10 =>
    (subO p3 (0 : Int) (minT (List.length p3 : Int) (1000 : Int))).bind fun v13 =>
    (frame_Read v13).bind fun v14 =>
    if !decide (v14.2 = (0 : Int)) then
      some ((@decide (v14.1 = (Msg.mk (0 : Int) (0 : Int) (0 : Int) (0 : Int) (0 : Int) (0 : Int) false (0 : Int) (0 : Int))) (Ty.dec tMsg _ _)))
    else
      (putI v14.1).bind fun v17 =>
      (
        if decide (v17.2.1 = (0 : Int)) then
          (subO v17.2.2 (0 : Int) v17.1).bind fun v21 =>
          (b2sO v21).bind fun v22 =>
          (b2sO v13).bind fun v23 =>
          some ((decide (v22 = v23)))
        else
          some (false) : Option Bool).bind fun v20 =>
      some (v20)) := rfl

/-- One bit turned in the bytes that were put. -/
theorem turn_buf {buf : List Int} {l : List Nat} (h19 : 19 ≤ buf.length) (ht : buf.take 19 = castL l) (hb : Byte19 l) (p : Nat) (hp : p < 152) :
    getO buf ((p / 8 : Nat) : Int) = some ((l.getD (p / 8) 0 : Nat) : Int) ∧ ∃ buf', setO buf ((p / 8 : Nat) : Int) (bXor .u8 ((l.getD (p / 8) 0 : Nat) : Int) ((2 ^ (p % 8) : Nat) : Int)) = some buf' ∧ 19 ≤ buf'.length ∧ buf'.take 19 = castL (xorL l (unitN p)) := by
  have hl := hb.len
  have hp19 : p / 8 < 19 := by omega
  have hg : buf[p / 8]? = some ((l.getD (p / 8) 0 : Nat) : Int) := by
    have h1 : (buf.take 19)[p / 8]? = buf[p / 8]? := by rw [List.getElem?_take, if_pos hp19]
    rw [← h1, ht]
    unfold castL
    rw [List.getElem?_map, List.getElem?_eq_getElem (by omega), List.getD_eq_getElem?_getD, List.getElem?_eq_getElem (by omega)]
    rfl
  refine ⟨by rw [getO_nat, hg], buf.set (p / 8) (((l.getD (p / 8) 0 ^^^ 2 ^ (p % 8)) : Nat) : Int), ?_, ?_, ?_⟩
  · rw [setO_in (by omega), xor_is8 _ _ (getD_lt hb _) (pow8 p)]
  · rw [List.length_set]; exact h19
  · rw [List.take_set, ht, ← turn_is hb p hp]
    unfold castL
    rw [List.map_set]

theorem shl_bit (k : Nat) (hk : k < 8) : shlO .u8 (1 : Int) (wu64 (k : Int)) = some ((2 ^ k : Nat) : Int) := by
  have h : ∀ k, k < 8 → shlO .u8 (1 : Int) (wu64 ((k : Nat) : Int)) = some ((2 ^ k : Nat) : Int) := by decide
  exact h k hk
theorem readS_broken {l : List Nat} (h : Byte19 l) (hw : ¬ wholeN l) : readS l = (msg0, 5) := by
  unfold readS
  have := h.len
  rw [if_neg (by omega), if_neg (by omega), if_neg hw]
theorem readS_facts {l : List Nat} (hl : ∀ x ∈ l, x < 256) : ((readS l).2 ≠ 0 ∧ (readS l).1 = msg0) ∨ ((readS l).2 = 0 ∧ Byte19 l ∧ ∃ x : Nums, x.Ok ∧ (readS l).1 = x.msg ∧ frameN x = l) := by
  unfold readS
  by_cases h1 : l.length < 19
  · rw [if_pos h1]; exact .inl ⟨by decide, rfl⟩
  rw [if_neg h1]
  by_cases h2 : 19 < l.length
  · rw [if_pos h2]; exact .inl ⟨by decide, rfl⟩
  rw [if_neg h2]
  by_cases h3 : wholeN l
  · rw [if_pos h3]
    by_cases h4 : kindOk l
    · rw [if_pos h4]
      have hb : Byte19 l := ⟨by omega, hl⟩
      exact .inr ⟨rfl, hb, numsOf l, numsOf_ok hb h4, rfl, put_read hb h3 h4⟩
    · rw [if_neg h4]; exact .inl ⟨by decide, rfl⟩
  · rw [if_neg h3]; exact .inl ⟨by decide, rfl⟩

theorem bit_of (k b : Nat) (hb : b < 8) : (k * 8 + b) / 8 = k ∧ (k * 8 + b) % 8 = b := by omega

theorem decMsg (a b : Msg) (h : a = b) : @decide (a = b) (Ty.dec tMsg a b) = true := @decide_eq_true (a = b) (Ty.dec tMsg a b) h

theorem frameTells_all (m : Msg) (at_ bit : Int) (b : List Int) (hn : 0 ≤ Msg.Num m ∧ Msg.Num m < 4294967296) (hv : 0 ≤ Msg.Val m ∧ Msg.Val m < 4294967296) (ha : 0 ≤ at_ ∧ at_ < 256) (hbt : 0 ≤ bit ∧ bit < 256) (hb : ∀ x ∈ b, 0 ≤ x ∧ x < 256) : l05_FrameTells m at_ bit b = some true := by
  rw [FrameTells_form]
  obtain ⟨l, hl1, hl2, hl3⟩ := first1000 b hb
  have second : ((subO b (0 : Int) (minT (List.length b : Int) (1000 : Int))).bind fun v13 =>
    (frame_Read v13).bind fun v14 =>
    if !decide (v14.2 = (0 : Int)) then
      some ((@decide (v14.1 = (Msg.mk (0 : Int) (0 : Int) (0 : Int) (0 : Int) (0 : Int) (0 : Int) false (0 : Int) (0 : Int))) (Ty.dec tMsg _ _)))
    else
      (putI v14.1).bind fun v17 =>
      (
        if decide (v17.2.1 = (0 : Int)) then
          (subO v17.2.2 (0 : Int) v17.1).bind fun v21 =>
          (b2sO v21).bind fun v22 =>
          (b2sO v13).bind fun v23 =>
          some ((decide (v22 = v23)))
        else
          some (false) : Option Bool).bind fun v20 =>
      some (v20)) = some true := by
    simp only [hl1, Option.bind_some, frame_Read_eq l hl2 hl3]
    rcases readS_facts hl3 with ⟨r1, r2⟩ | ⟨r1, r2, x, r3, r4, r5⟩
    · rw [decide_eq_false r1, r2]
      simp only [Bool.not_false, if_true]
      exact congrArg some (decMsg _ _ rfl)
    · rw [r1, r4]
      obtain ⟨buf, p1, p2, p3⟩ := putI_eq r3
      simp only [decide_true, Bool.not_true, Bool.false_eq_true, if_false, p1, Option.bind_some, if_true, take19 p2 p3, r5, b2sO_cast hl3]
  have first : ∀ g : Unit → Option Bool, g () = some true → ((putI m).bind fun v6 =>
    orExit (
      if decide (v6.2.1 = (0 : Int)) then
        (subO v6.2.2 (0 : Int) v6.1).bind fun v10 =>
        (frame_Read v10).bind fun v11 =>
        (remO (w64 at_) (v6.1 - (0 : Int))).bind fun v15 =>
        (idxvO (0 : Int) v6.1 v15).bind fun v16 =>
        (getO v6.2.2 v16).bind fun v17 =>
        (remO bit (8 : Int)).bind fun v18 =>
        (shlO .u8 (1 : Int) (wu64 v18)).bind fun v20 =>
        (idxvO (0 : Int) v6.1 v15).bind fun v22 =>
        (setO v6.2.2 v22 (bXor .u8 v17 v20)).bind fun v23 =>
        (subO v23 (0 : Int) v6.1).bind fun v24 =>
        (frame_Read v24).bind fun v25 =>
        if (!decide (v11.2 = (0 : Int))) || ((!(@decide (v11.1 = m) (Ty.dec tMsg _ _))) || ((!decide (v25.2 = (5 : Int))) || (!(@decide (v25.1 = (Msg.mk (0 : Int) (0 : Int) (0 : Int) (0 : Int) (0 : Int) (0 : Int) false (0 : Int) (0 : Int))) (Ty.dec tMsg _ _))))) then
          some (Sum.inr (false))
        else
          some (Sum.inl ())
      else
        some (Sum.inl ()) : Option (Unit ⊕ Bool)) g) = some true := fun g hg => by
    cases hm : mayM m
    · rw [putI_no hm]
      exact hg
    · obtain ⟨x, hx, rfl⟩ := nums_of hm hn hv
      obtain ⟨buf, p1, p2, p3⟩ := putI_eq hx
      have hby := frameN_byte hx
      obtain ⟨r1, a1, b1⟩ := rem_pos ha.1 (show (0 : Int) < 19 by omega)
      obtain ⟨r2, a2, b2⟩ := rem_pos hbt.1 (show (0 : Int) < 8 by omega)
      obtain ⟨k, hk⟩ : ∃ n : Nat, at_ % 19 = (n : Int) := ⟨(at_ % 19).toNat, by omega⟩
      obtain ⟨c, hc⟩ : ∃ n : Nat, bit % 8 = (n : Int) := ⟨(bit % 8).toNat, by omega⟩
      rw [hk] at r1 b1
      rw [hc] at r2 b2
      have hwa : w64 at_ = at_ := w64_id (by omega) (by omega)
      have hix : idxvO (0 : Int) (19 : Int) (k : Int) = some (k : Int) := by
        unfold idxvO
        rw [if_pos (by omega)]
        congr 1
        omega
      obtain ⟨q1, q2⟩ := bit_of k c (by omega)
      obtain ⟨t1, buf', t2, t3, t4⟩ := turn_buf p2 p3 hby (k * 8 + c) (by omega)
      rw [q1] at t1 t2
      rw [q2] at t2
      have hb' := xorL_byte hby (unitN_byte (k * 8 + c))
      have hrd := frame_Read_eq (frameN x) (by rw [hby.len]; omega) hby.lt
      rw [readS_put hx] at hrd
      have hrd2 := frame_Read_eq (xorL (frameN x) (unitN (k * 8 + c))) (by rw [hb'.len]; omega) hb'.lt
      rw [readS_broken hb' (turn_one hby (frameN_whole x) (by omega))] at hrd2
      have h19 : (19 : Int) - 0 = 19 := rfl
      have d1 : @decide (x.msg = x.msg) (Ty.dec tMsg _ _) = true := decMsg _ _ rfl
      have d2 : @decide (msg0 = (Msg.mk (0 : Int) (0 : Int) (0 : Int) (0 : Int) (0 : Int) (0 : Int) false (0 : Int) (0 : Int))) (Ty.dec tMsg _ _) = true := decMsg _ _ rfl
      simp only [p1, Option.bind_some, decide_true, if_true, take19 p2 p3, hrd, hwa, h19, r1, hix, t1, r2, shl_bit c (by omega), t2, take19 t3 t4, hrd2, d1, d2, Bool.not_true, Bool.or_self, Bool.false_eq_true, if_false, orExit_inl]
      exact hg
  simp only [l05_awake, Bool.not_true, Bool.false_eq_true, if_false]
  exact first _ second

theorem frameTells_ok (x : Ty.Tup F_l05_FrameTells.ps) (h : OkL F_l05_FrameTells.ps x) : F_l05_FrameTells.sem x = some true :=
  frameTells_all x.1 x.2.1 x.2.2.1 x.2.2.2 ⟨h.1.2.2.2.2.2.2.2.1.1, Int.lt_of_le_of_lt h.1.2.2.2.2.2.2.2.1.2 (by decide)⟩ ⟨h.1.2.2.2.2.2.2.2.2.1, Int.lt_of_le_of_lt h.1.2.2.2.2.2.2.2.2.2 (by decide)⟩
    ⟨h.2.1.1, Int.lt_of_le_of_lt h.2.1.2 (by decide)⟩ ⟨h.2.2.1.1, Int.lt_of_le_of_lt h.2.2.1.2 (by decide)⟩
    (fun y hy => by
      have := h.2.2.2.2 y hy
      exact ⟨this.1, Int.lt_of_le_of_lt this.2 (by decide)⟩)

end Go.Proofs.Ytklkpogdghiagaa
