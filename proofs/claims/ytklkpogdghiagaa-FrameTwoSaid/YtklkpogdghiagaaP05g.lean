/- Layer 5: the law FrameTwo on typed data. -/
import Derived.Test.YtklkpogdghiagaaP05f
import Derived.Test.YtklkpogdghiagaaD054
set_option linter.unusedSimpArgs false
set_option linter.unusedVariables false
namespace Go.Proofs.Ytklkpogdghiagaa
open Go.SX

theorem FrameTwo_form (p0 : Msg) (p1 : Msg) (p2 : Int) (p3 : Int) : l05_FrameTwo p0 p1 p2 p3 =
  (if !l05_awake then
    some (false)
  else
    (putI p0).bind fun v6 =>
    (putI p1).bind fun v9 =>
    if (!decide (v6.2.1 = (0 : Int))) || (!decide (v9.2.1 = (0 : Int))) then
      (
        (frame_May p0).bind fun v13 =>
        if !v13 then
          some (true)
        else
          (frame_May p1).bind fun v15 =>
          some ((!v15)) : Option Bool).bind fun v13 =>
      some (v13)
    else
      (subO v6.2.2 (0 : Int) v6.1).bind fun v13 =>
      (b2sO v13).bind fun v14 =>
      (subO v9.2.2 (0 : Int) v9.1).bind fun v15 =>
      (b2sO v15).bind fun v16 =>
      if !decide ((decide (v14 = v16)) = (@decide (p0 = p1) (Ty.dec tMsg _ _))) then
        some (false)
      else
        (remO (w64 p2) (152 : Int)).bind fun v21 =>
        (remO (w64 p3) (152 : Int)).bind fun v23 =>
        if decide (v21 = v23) then
          some (true)
        else
          (quoO .i64 v21 (8 : Int)).bind fun v25 =>
          (quoO .i64 v21 (8 : Int)).bind fun v26 =>
          (idxvO (0 : Int) v6.1 v26).bind fun v27 =>
          (getO v6.2.2 v27).bind fun v28 =>
          (remO v21 (8 : Int)).bind fun v29 =>
          (shlO .u8 (1 : Int) (wu64 v29)).bind fun v31 =>
          (idxvO (0 : Int) v6.1 v25).bind fun v33 =>
          (setO v6.2.2 v33 (bXor .u8 v28 v31)).bind fun v34 =>
          (quoO .i64 v23 (8 : Int)).bind fun v35 =>
          (quoO .i64 v23 (8 : Int)).bind fun v36 =>
          (idxvO (0 : Int) v6.1 v36).bind fun v37 =>
          (getO v34 v37).bind fun v38 =>
          (remO v23 (8 : Int)).bind fun v39 =>
          (shlO .u8 (1 : Int) (wu64 v39)).bind fun v41 =>
          (idxvO (0 : Int) v6.1 v35).bind fun v43 =>
          (setO v34 v43 (bXor .u8 v38 v41)).bind fun v44 =>
          (subO v44 (0 : Int) v6.1).bind fun v45 =>
          (frame_Read v45).bind fun v46 =>
          some (((decide (v46.2 = (5 : Int))) && (@decide (v46.1 = (Msg.mk (0 : Int) (0 : Int) (0 : Int) (0 : Int) (0 : Int) (0 : Int) false (0 : Int) (0 : Int))) (Ty.dec tMsg _ _))))) := rfl

theorem nums_inj {x y : Nums} (h : x.msg = y.msg) : x = y := by
  obtain ⟨a1, a2, a3, a4, a5, a6, a7, a8, a9⟩ := x
  obtain ⟨b1, b2, b3, b4, b5, b6, b7, b8, b9⟩ := y
  unfold Nums.msg Msg.mk at h
  dsimp only at h
  simp only [Prod.mk.injEq] at h
  obtain ⟨h1, h2, h3, h4, h5, h6, h7, h8, h9⟩ := h
  have e1 : a1 = b1 := Int.ofNat.inj h1
  have e2 : a2 = b2 := Int.ofNat.inj h2
  have e3 : a3 = b3 := Int.ofNat.inj h3
  have e4 : a4 = b4 := Int.ofNat.inj h4
  have e5 : a5 = b5 := Int.ofNat.inj h5
  have e6 : a6 = b6 := Int.ofNat.inj h6
  have e8 : a8 = b8 := Int.ofNat.inj h8
  have e9 : a9 = b9 := Int.ofNat.inj h9
  subst e1 e2 e3 e4 e5 e6 h7 e8 e9
  rfl
theorem frameN_inj {x y : Nums} (hx : x.Ok) (hy : y.Ok) : frameN x = frameN y ↔ x.msg = y.msg := by
  constructor
  · intro h
    have h1 := (read_put hx).2.2
    have h2 := (read_put hy).2.2
    rw [h, h2] at h1
    rw [h1]
  · intro h
    rw [nums_inj h]
theorem quo8 (i : Nat) (hi : i < 152) : quoO .i64 (i : Int) (8 : Int) = some ((i / 8 : Nat) : Int) := by
  unfold quoO
  rw [if_neg (by omega), Int.tdiv_eq_ediv_of_nonneg (by omega)]
  have h1 : ((i : Int) / (8 : Int)) = ((i / 8 : Nat) : Int) := (Int.natCast_ediv i 8).symm
  rw [h1]
  exact congrArg some (w64_nat (by omega))
theorem rem8 (i : Nat) : remO (i : Int) (8 : Int) = some ((i % 8 : Nat) : Int) := rem_is i 8 (by omega)

theorem frameTwo_all (m n : Msg) (a b : Int) (hn : 0 ≤ Msg.Num m ∧ Msg.Num m < 4294967296) (hv : 0 ≤ Msg.Val m ∧ Msg.Val m < 4294967296) (hn2 : 0 ≤ Msg.Num n ∧ Msg.Num n < 4294967296) (hv2 : 0 ≤ Msg.Val n ∧ Msg.Val n < 4294967296) (ha : 0 ≤ a ∧ a < 256) (hb : 0 ≤ b ∧ b < 256) : l05_FrameTwo m n a b = some true := by
  rw [FrameTwo_form]
  cases hm : mayM m
  · have h2 : ∃ v9, putI n = some v9 := by
      cases hmn : mayM n
      · exact ⟨_, putI_no hmn⟩
      · obtain ⟨y, hy, rfl⟩ := nums_of hmn hn2 hv2
        obtain ⟨buf, p1, _⟩ := putI_eq hy
        exact ⟨_, p1⟩
    obtain ⟨v9, h2⟩ := h2
    simp only [l05_awake, Bool.not_true, Bool.false_eq_true, if_false, putI_no hm, h2, Option.bind_some, frame_May_eq, hm, show ¬ (1 : Int) = 0 by omega, decide_false, Bool.not_false, Bool.true_or, if_true]
  · obtain ⟨x, hx, rfl⟩ := nums_of hm hn hv
    obtain ⟨buf, p1, p2, p3⟩ := putI_eq hx
    cases hmn : mayM n
    · simp only [l05_awake, Bool.not_true, Bool.false_eq_true, if_false, putI_no hmn, p1, Option.bind_some, frame_May_eq, hm, hmn, show ¬ (1 : Int) = 0 by omega, decide_false, decide_true, Bool.not_false, Bool.or_true, if_true]
    · obtain ⟨y, hy, rfl⟩ := nums_of hmn hn2 hv2
      obtain ⟨buf2, q1, q2, q3⟩ := putI_eq hy
      have hbx := frameN_byte hx
      have hby := frameN_byte hy
      have heq : decide (castL (frameN x) = castL (frameN y)) = @decide (x.msg = y.msg) (Ty.dec tMsg _ _) := by
        by_cases h : x.msg = y.msg
        · rw [decMsg _ _ h]
          exact decide_eq_true (by rw [(frameN_inj hx hy).2 h])
        · have h1 : @decide (x.msg = y.msg) (Ty.dec tMsg _ _) = false := @decide_eq_false (x.msg = y.msg) (Ty.dec tMsg _ _) h
          rw [h1]
          exact decide_eq_false fun h2 => h ((frameN_inj hx hy).1 (castL_inj.1 h2))
      obtain ⟨r1, a1, b1⟩ := rem_pos ha.1 (show (0 : Int) < 152 by omega)
      obtain ⟨r2, a2, b2⟩ := rem_pos hb.1 (show (0 : Int) < 152 by omega)
      obtain ⟨i, hi⟩ : ∃ n : Nat, a % 152 = (n : Int) := ⟨(a % 152).toNat, by omega⟩
      obtain ⟨k, hk⟩ : ∃ n : Nat, b % 152 = (n : Int) := ⟨(b % 152).toNat, by omega⟩
      rw [hi] at r1 b1
      rw [hk] at r2 b2
      have hwa : w64 a = a := w64_id (by omega) (by omega)
      have hwb : w64 b = b := w64_id (by omega) (by omega)
      have hix : ∀ j : Nat, j < 152 → idxvO (0 : Int) (19 : Int) ((j / 8 : Nat) : Int) = some ((j / 8 : Nat) : Int) := fun j hj => by
        unfold idxvO
        rw [if_pos (by omega)]
        congr 1
        omega
      simp only [l05_awake, Bool.not_true, Bool.false_eq_true, if_false, p1, q1, Option.bind_some, decide_true, Bool.or_self, take19 p2 p3, take19 q2 q3, b2sO_cast hbx.lt, b2sO_cast hby.lt, heq, hwa, hwb, r1, r2]
      by_cases hik : (i : Int) = (k : Int)
      · simp only [hik, decide_true, if_true]
      · have hne : i ≠ k := fun h => hik (by rw [h])
        have hi152 : i < 152 := by omega
        have hk152 : k < 152 := by omega
        obtain ⟨t1, buf', t2, t3, t4⟩ := turn_buf p2 p3 hbx i hi152
        have hb1 := xorL_byte hbx (unitN_byte i)
        obtain ⟨u1, buf'', u2, u3, u4⟩ := turn_buf t3 t4 hb1 k hk152
        have hb2 := xorL_byte hb1 (unitN_byte k)
        have hrd2 := frame_Read_eq (xorL (xorL (frameN x) (unitN i)) (unitN k)) (by rw [hb2.len]; omega) hb2.lt
        rw [readS_broken hb2 (turn_two hbx (frameN_whole x) hi152 hk152 hne)] at hrd2
        have d2 : @decide (msg0 = (Msg.mk (0 : Int) (0 : Int) (0 : Int) (0 : Int) (0 : Int) (0 : Int) false (0 : Int) (0 : Int))) (Ty.dec tMsg _ _) = true := decMsg _ _ rfl
        simp only [hik, decide_false, Bool.false_eq_true, if_false, quo8 i hi152, quo8 k hk152, rem8, Option.bind_some, hix i hi152, hix k hk152, t1, shl_bit (i % 8) (by omega), shl_bit (k % 8) (by omega), t2, u1, u2, take19 u3 u4, hrd2, decide_true, d2, Bool.and_self]

theorem frameTwo_ok (x : Ty.Tup F_l05_FrameTwo.ps) (h : OkL F_l05_FrameTwo.ps x) : F_l05_FrameTwo.sem x = some true :=
  frameTwo_all x.1 x.2.1 x.2.2.1 x.2.2.2 ⟨h.1.2.2.2.2.2.2.2.1.1, Int.lt_of_le_of_lt h.1.2.2.2.2.2.2.2.1.2 (by decide)⟩ ⟨h.1.2.2.2.2.2.2.2.2.1, Int.lt_of_le_of_lt h.1.2.2.2.2.2.2.2.2.2 (by decide)⟩
    ⟨h.2.1.2.2.2.2.2.2.2.1.1, Int.lt_of_le_of_lt h.2.1.2.2.2.2.2.2.2.1.2 (by decide)⟩ ⟨h.2.1.2.2.2.2.2.2.2.2.1, Int.lt_of_le_of_lt h.2.1.2.2.2.2.2.2.2.2.2 (by decide)⟩
    ⟨h.2.2.1.1, Int.lt_of_le_of_lt h.2.2.1.2 (by decide)⟩ ⟨h.2.2.2.1, Int.lt_of_le_of_lt h.2.2.2.2 (by decide)⟩

end Go.Proofs.Ytklkpogdghiagaa
