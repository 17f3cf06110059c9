/- Layer 5: the law FrameRight on typed data. -/
import Derived.Test.YtklkpogdghiagaaP05d
import Derived.Test.YtklkpogdghiagaaD052
set_option linter.unusedSimpArgs false
set_option linter.unusedVariables false
namespace Go.Proofs.Ytklkpogdghiagaa
open Go.SX

noncomputable def r05PutI (m : Msg) : Option (Int × List Int) :=
      (r05_May m).bind fun v11 =>
      if !v11 then
        some (((1 : Int), ([] : List Int)))
      else
        let v25 : List Int := ([wu8 (Msg.Kind m), wu8 (Msg.From m), wu8 (Msg.To m), wu8 (Msg.Line m), wu8 (Msg.For m), wu8 (Msg.Acks m), (0 : Int)] : List Int)
        (
          if Msg.Own m then
            (idxO (List.length v25 : Int) (6 : Int)).bind fun v27 =>
            (setO v25 v27 (1 : Int)).bind fun v28 =>
            some (v28)
          else
            some (v25) : Option (List Int)).bind fun v27 =>
        (r01_Bytes (Msg.Num m)).bind fun v29 =>
        (appO 1 v27 v29).bind fun v30 =>
        (r01_Bytes (Msg.Val m)).bind fun v32 =>
        (appO 1 v30 v32).bind fun v33 =>
        (r05_Sum v33).bind fun v34 =>
        (r01_Bytes v34).bind fun v35 =>
        (appO 1 v33 v35).bind fun v36 =>
        some (((0 : Int), v36))
theorem r05PutI_no {m : Msg} (h : mayM m = false) : r05PutI m = some ((1 : Int), ([] : List Int)) := by
  unfold r05PutI
  rw [r05_May_eq, h]
  rfl
theorem r05PutI_eq {x : Nums} (h : x.Ok) : r05PutI x.msg = some ((0 : Int), castL (frameN x)) := by
  have hb1 := r01_Bytes_eq x.nu h.nu
  have hb2 := r01_Bytes_eq x.va h.va
  have hb3 := r01_Bytes_eq (crcN (dataN x)) crcN_lt
  have hsum := r05_Sum_eq (dataN x) (by rw [dataN_len]; omega) (dataN_lt h)
  obtain ⟨h1, h2, h3, h4, h5, h6, h7, _, _⟩ := id h
  have hl : [wu8 (Msg.Kind x.msg), wu8 (Msg.From x.msg), wu8 (Msg.To x.msg), wu8 (Msg.Line x.msg), wu8 (Msg.For x.msg), wu8 (Msg.Acks x.msg), (0 : Int)] = castL [x.k, x.f, x.t, x.li, x.fo, x.ac, 0] := by
    unfold Nums.msg castL
    simp only [Msg.From_mk, Msg.To_mk, Msg.Line_mk, Msg.For_mk, Msg.Acks_mk, Msg.Kind_mk, Msg.Own_mk, wu8_nat, List.map_cons, List.map_nil]
    rw [Nat.mod_eq_of_lt (by omega), Nat.mod_eq_of_lt (by omega), Nat.mod_eq_of_lt (by omega), Nat.mod_eq_of_lt (by omega), Nat.mod_eq_of_lt (by omega), Nat.mod_eq_of_lt (by omega)]
    rfl
  have hs : (if Msg.Own x.msg then
            (idxO (List.length (castL [x.k, x.f, x.t, x.li, x.fo, x.ac, 0]) : Int) (6 : Int)).bind fun v27 =>
            (setO (castL [x.k, x.f, x.t, x.li, x.fo, x.ac, 0]) v27 (1 : Int)).bind fun v28 =>
            some (v28)
          else
            some (castL [x.k, x.f, x.t, x.li, x.fo, x.ac, 0]) : Option (List Int)) = some (castL (headN x)) := by
    have ho : Msg.Own x.msg = x.own := rfl
    unfold headN
    rw [ho]
    cases x.own <;> rfl
  have a1 : appO 1 (castL (headN x)) (castL (bytesN x.nu)) = some (castL (headN x ++ bytesN x.nu)) := by
    rw [appO_small (by rw [castL_len, castL_len]; simp [headN, bytesN]) (by omega), castL_app]
  have a2 : appO 1 (castL (headN x ++ bytesN x.nu)) (castL (bytesN x.va)) = some (castL (dataN x)) := by
    rw [appO_small (by rw [castL_len, castL_len]; simp [headN, bytesN]) (by omega), ← castL_app]
    rfl
  have a3 : appO 1 (castL (dataN x)) (castL (bytesN (crcN (dataN x)))) = some (castL (frameN x)) := by
    rw [appO_small (by rw [castL_len, castL_len, dataN_len]; simp [bytesN]) (by omega), ← castL_app]
    rfl
  have hN : Msg.Num x.msg = (x.nu : Int) := rfl
  have hV : Msg.Val x.msg = (x.va : Int) := rfl
  unfold r05PutI
  rw [r05_May_eq, nums_may h, hl]
  simp only [Option.bind_some, Bool.not_true, Bool.false_eq_true, if_false, hs, hN, hV, hb1, hb2, a1, a2, hsum, hb3, a3]

theorem FrameRight_L1_eq : l05_FrameRight_L1 = frame_Read_L1 := rfl
theorem FrameRight_L2_eq : l05_FrameRight_L2 = frame_Read_L2 := rfl
theorem FrameRight_form (p0 : Msg) (p1 : List Int) : l05_FrameRight p0 p1 =
  (if !l05_awake then
    some (false)
  else
    (subO p1 (0 : Int) (minT (List.length p1 : Int) (1000 : Int))).bind fun v7 =>
    (putI p0).bind fun v8 =>
    (r05PutI p0).bind fun v11 =>
    (frame_Read v7).bind fun v13 =>
    (r05_Read v7).bind fun v15 =>
    (
      (frame_May p0).bind fun v17 =>
      (r05_May p0).bind fun v18 =>
      if decide (v17 = v18) then
        (frame_Sum v7).bind fun v20 =>
        (r05_Sum v7).bind fun v21 =>
        if decide (v20 = v21) then
          (subO v8.2.2 (0 : Int) v8.1).bind fun v23 =>
          (b2sO v23).bind fun v24 =>
          (b2sO v11.2).bind fun v25 =>
          if decide (v24 = v25) then
            if decide (v8.2.1 = v11.1) then
              if @decide (v13.1 = v15.1) (Ty.dec tMsg _ _) then
                some ((decide (v13.2 = v15.2)))
              else
                some (false)
            else
              some (false)
          else
            some (false)
        else
          some (false)
      else
        some (false) : Option Bool).bind fun v17 =>
    some (v17)) := rfl

/-- The bytes that are looked at. -/
theorem first1000 (b : List Int) (hb : ∀ x ∈ b, 0 ≤ x ∧ x < 256) : ∃ l : List Nat, subO b (0 : Int) (minT (List.length b : Int) (1000 : Int)) = some (castL l) ∧ l.length ≤ 1000 ∧ ∀ x ∈ l, x < 256 := by
  have hm : minT (List.length b : Int) (1000 : Int) = ((min b.length 1000 : Nat) : Int) := by
    unfold minT
    split <;> omega
  have hs := subO_in (l := b) (i := 0) (j := min b.length 1000) (by omega) (by omega)
  rw [List.drop_zero] at hs
  obtain ⟨l, h1, h2⟩ := cast_of (l := b.take (min b.length 1000)) fun x hx => hb x (List.mem_of_mem_take hx)
  refine ⟨l, ?_, ?_, h2⟩
  · rw [hm, ← h1]
    exact hs
  · rw [← castL_len l, ← h1, List.length_take]
    omega

theorem frameRight_all (m : Msg) (b : List Int) (hn : 0 ≤ Msg.Num m ∧ Msg.Num m < 4294967296) (hv : 0 ≤ Msg.Val m ∧ Msg.Val m < 4294967296) (hb : ∀ x ∈ b, 0 ≤ x ∧ x < 256) : l05_FrameRight m b = some true := by
  rw [FrameRight_form]
  obtain ⟨l, hl1, hl2, hl3⟩ := first1000 b hb
  have hd : ∀ a : Msg, @decide (a = a) (Ty.dec tMsg _ _) = true := fun a => @decide_eq_true (a = a) (Ty.dec tMsg a a) rfl
  simp only [l05_awake, Bool.not_true, Bool.false_eq_true, if_false, hl1, Option.bind_some, frame_Read_eq l hl2 hl3, r05_Read_eq l hl2 hl3, frame_May_eq, r05_May_eq, decide_true, if_true, frame_Sum_eq l (by omega) hl3, r05_Sum_eq l (by omega) hl3, hd]
  cases hm : mayM m
  · rw [putI_no hm, r05PutI_no hm]
    rfl
  · obtain ⟨x, hx, rfl⟩ := nums_of hm hn hv
    obtain ⟨buf, p1, p2, p3⟩ := putI_eq hx
    simp only [p1, r05PutI_eq hx, Option.bind_some, take19 p2 p3, b2sO_cast (frameN_byte hx).lt, decide_true, if_true]

theorem frameRight_ok (x : Ty.Tup F_l05_FrameRight.ps) (h : OkL F_l05_FrameRight.ps x) : F_l05_FrameRight.sem x = some true :=
  frameRight_all x.1 x.2 ⟨h.1.2.2.2.2.2.2.2.1.1, Int.lt_of_le_of_lt h.1.2.2.2.2.2.2.2.1.2 (by decide)⟩ ⟨h.1.2.2.2.2.2.2.2.2.1, Int.lt_of_le_of_lt h.1.2.2.2.2.2.2.2.2.2 (by decide)⟩
    (fun y hy => by
      have := h.2.2 y hy
      exact ⟨this.1, Int.lt_of_le_of_lt this.2 (by decide)⟩)

end Go.Proofs.Ytklkpogdghiagaa
