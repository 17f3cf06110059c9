/- More functions of this cut as functions of plain typed data. Printed by a program of this claim's prover; each is checked here to be what the executor makes of the code. -/
import Derived.Test.YtklkpogdghiagaaD051
set_option linter.unusedVariables false
set_option maxRecDepth 100000
namespace Go.Proofs.Ytklkpogdghiagaa
open Go.SX
/-! 9: backstay/backstaylaw05.FrameRight -/
noncomputable def l05_FrameRight_L1 (x29 : List (List Int)) (x34 : Int) (s : (Int × Int × (List Int))) : Option ((Int × Int × (List Int)) ⊕ (Int × (List Int))) :=
  if decide (s.2.1 < x34) then
    (idxO (List.length x29 : Int) s.2.1).bind fun v39 =>
    (getO x29 v39).bind fun v40 =>
    (appvO 1 s.2.2 s.1 v40).bind fun v41 =>
    some (Sum.inl (s.1 + (List.length v40 : Int), w64 (s.2.1 + (1 : Int)), v41))
  else
    some (Sum.inr ((s.1, s.2.2)))
noncomputable def l05_FrameRight_L2 (x29 : List (List Int)) (x30 : Int) (s : (Int × Int)) : Option ((Int × Int) ⊕ Int) :=
  if decide (s.2 < x30) then
    (idxO (List.length x29 : Int) s.2).bind fun v34 =>
    (getO x29 v34).bind fun v35 =>
    let v37 : Int := w64 (s.1 + (List.length v35 : Int))
    if decide (v37 < (0 : Int)) then
      none
    else
      some (Sum.inl (v37, w64 (s.2 + (1 : Int))))
  else
    some (Sum.inr (s.1))
noncomputable def l05_FrameRight (p0 : Msg) (p1 : List Int) : Option Bool :=
  if !l05_awake then
    some (false)
  else
    (subO p1 (0 : Int) (minT (List.length p1 : Int) (1000 : Int))).bind fun v7 =>
    (
      (frame_May p0).bind fun v8 =>
      if !v8 then
        some (((0 : Int), (1 : Int), ([] : List Int)))
      else
        (
          (word_Bytes (Msg.Num p0)).bind fun v26 =>
          (word_Bytes (Msg.Val p0)).bind fun v28 =>
          let v29 : List (List Int) := ([([wu8 (Msg.Kind p0), wu8 (Msg.From p0), wu8 (Msg.To p0), wu8 (Msg.Line p0), wu8 (Msg.For p0), wu8 (Msg.Acks p0), bif Msg.Own p0 then (1 : Int) else (0 : Int)] : List Int), v26, v28] : List (List Int))
          (
            let v30 : Int := (List.length v29 : Int)
            (
              loopD (l05_FrameRight_L2 v29 v30) ((0 : Int), (0 : Int)) : Option Int).bind fun v31 =>
            (
              if decide (v31 < (0 : Int)) then
                none
              else
                let v33 : Int := w64 (v31 - (0 : Int))
                (
                  if decide ((0 : Int) < v33) then
                    (zextO (0 : Int) 1 ([] : List Int) v33).bind fun v35 =>
                    (rngO (List.length v35 : Int) (0 : Int) (0 : Int)).bind fun v37 =>
                    some ((v37, v35))
                  else
                    some (((0 : Int), ([] : List Int))) : Option (Int × (List Int))).bind fun v35 =>
                some ((v35.1, v35.2)) : Option (Int × (List Int))).bind fun v32 =>
            let v34 : Int := (List.length v29 : Int)
            (
              loopD (l05_FrameRight_L1 v29 v34) (v32.1, (0 : Int), v32.2) : Option (Int × (List Int))).bind fun v35 =>
            some ((v35.1, v35.2)) : Option (Int × (List Int))).bind fun v30 =>
          (subO v30.2 (0 : Int) v30.1).bind fun v32 =>
          (frame_Sum v32).bind fun v33 =>
          (word_Bytes v33).bind fun v34 =>
          (appvO 1 v30.2 v30.1 v34).bind fun v35 =>
          some ((v30.1 + (List.length v34 : Int), v35)) : Option (Int × (List Int))).bind fun v10 =>
        some ((v10.1, (0 : Int), v10.2)) : Option (Int × Int × (List Int))).bind fun v8 =>
    (
      (r05_May p0).bind fun v11 =>
      if !v11 then
        some (((1 : Int), ([] : List Int)))
      else
        let v25 : List Int := ([wu8 (Msg.Kind p0), wu8 (Msg.From p0), wu8 (Msg.To p0), wu8 (Msg.Line p0), wu8 (Msg.For p0), wu8 (Msg.Acks p0), (0 : Int)] : List Int)
        (
          if Msg.Own p0 then
            (idxO (List.length v25 : Int) (6 : Int)).bind fun v27 =>
            (setO v25 v27 (1 : Int)).bind fun v28 =>
            some (v28)
          else
            some (v25) : Option (List Int)).bind fun v27 =>
        (r01_Bytes (Msg.Num p0)).bind fun v29 =>
        (appO 1 v27 v29).bind fun v30 =>
        (r01_Bytes (Msg.Val p0)).bind fun v32 =>
        (appO 1 v30 v32).bind fun v33 =>
        (r05_Sum v33).bind fun v34 =>
        (r01_Bytes v34).bind fun v35 =>
        (appO 1 v33 v35).bind fun v36 =>
        some (((0 : Int), v36)) : Option (Int × (List Int))).bind fun v11 =>
    (frame_Read v7).bind fun v13 =>
    (r05_Read v7).bind fun v15 =>
    (
      (frame_May p0).bind fun v17 =>
      (r05_May p0).bind fun v18 =>
      if decide (v17 = v18) then
        (frame_Sum v7).bind fun v20 =>
        (r05_Sum v7).bind fun v21 =>
        if decide (v20 = v21) then
          (subO v8.2.2 (0 : Int) v8.1).bind fun v23 =>
          (b2sO v23).bind fun v24 =>
          (b2sO v11.2).bind fun v25 =>
          if decide (v24 = v25) then
            if decide (v8.2.1 = v11.1) then
              if @decide (v13.1 = v15.1) (Ty.dec tMsg _ _) then
                some ((decide (v13.2 = v15.2)))
              else
                some (false)
            else
              some (false)
          else
            some (false)
        else
          some (false)
      else
        some (false) : Option Bool).bind fun v17 =>
    some (v17)
noncomputable def F_l05_FrameRight : FnT := ⟨[tMsg, .sl (.int .u8)], [.bool], fun x => l05_FrameRight x.1 x.2⟩
noncomputable def A_l05_FrameRight : TA :=
 .callp 45 F_l05_awake [] 1 <|
 .prim (.un .not) [.v 2] <|
 .ite (.v 3) (
  .jmp 0 false [.c (.bool false)]) (
  .prim .len [.v 1] <|
  .prim .min2 [.v 4, .c (.int .i64 1000)] <|
  .prim .len [.v 1] <|
  .prim .sub [.v 1, .c (.int .i64 0), .v 5] <|
  .sub0 [.int .i64, .int .i64, .sl (.int .u8)] (
   .call 50 F_frame_May [.v 0] 1 <|
   .prim (.un .not) [.v 8] <|
   .ite (.v 9) (
    .jmp 0 false [.c (.int .i64 0), .c (.int .i64 1), .c .nil]) (
    .sub0 [.int .i64, .sl (.int .u8)] (
     .prim (.fld 6) [.v 0] <|
     .subp [.int .u8] (
      .ite (.v 10) (
       .jmp 0 false [.c (.int .u8 1)]) (
       .jmp 0 false [.c (.int .u8 0)])) 1 <|
     .prim (.fld 0) [.v 0] <|
     .prim (.conv .u8) [.v 12] <|
     .prim (.fld 1) [.v 0] <|
     .prim (.conv .u8) [.v 14] <|
     .prim (.fld 2) [.v 0] <|
     .prim (.conv .u8) [.v 16] <|
     .prim (.fld 3) [.v 0] <|
     .prim (.conv .u8) [.v 18] <|
     .prim (.fld 4) [.v 0] <|
     .prim (.conv .u8) [.v 20] <|
     .prim (.fld 5) [.v 0] <|
     .prim (.conv .u8) [.v 22] <|
     .mkL (.int .u8) [.v 13, .v 15, .v 17, .v 19, .v 21, .v 23, .v 11] <|
     .prim (.fld 7) [.v 0] <|
     .call 97 F_word_Bytes [.v 25] 1 <|
     .prim (.fld 8) [.v 0] <|
     .call 97 F_word_Bytes [.v 27] 1 <|
     .mkL (.sl (.int .u8)) [.v 24, .v 26, .v 28] <|
     .sub0 [.int .i64, .sl (.int .u8)] (
      .prim .len [.v 29] <|
      .sub0 [.int .i64] (
       .loop [.int .i64, .int .i64] [.c (.int .i64 0), .c (.int .i64 0)] (
        .prim (.bin .lss) [.v 32, .v 30] <|
        .ite (.v 33) (
         .prim .idx [.v 29, .v 32] <|
         .prim .get [.v 29, .v 34] <|
         .prim .len [.v 35] <|
         .prim (.bin .add) [.v 31, .v 36] <|
         .prim (.bin .lss) [.v 37, .c (.int .i64 0)] <|
         .ite (.v 38) (
          .fail 153) (
          .prim (.bin .add) [.v 32, .c (.int .i64 1)] <|
          .jmp 0 true [.v 37, .v 39])) (
         .jmp 1 false [.v 31]))) 1 <|
      .sub0 [.int .i64, .sl (.int .u8)] (
       .prim (.bin .lss) [.v 31, .c (.int .i64 0)] <|
       .ite (.v 32) (
        .fail 153) (
        .prim (.bin .sub) [.v 31, .c (.int .i64 0)] <|
        .prim (.bin .gtr) [.v 33, .c (.int .i64 0)] <|
        .sub0 [.int .i64, .sl (.int .u8)] (
         .ite (.v 34) (
          .primH (.zext (.int .u8 0) 1) (.sl (.int .u8)) [.c .nil, .v 33] <|
          .prim .len [.v 35] <|
          .prim .rng [.v 35, .c (.int .i64 0), .c (.int .i64 0)] <|
          .jmp 0 false [.v 37, .v 35]) (
          .jmp 0 false [.c (.int .i64 0), .c .nil])) 2 <|
        .jmp 0 false [.v 35, .v 36])) 2 <|
      .prim .len [.v 29] <|
      .sub0 [.int .i64, .sl (.int .u8)] (
       .loop [.int .i64, .int .i64, .sl (.int .u8)] [.v 32, .c (.int .i64 0), .v 33] (
        .prim (.bin .lss) [.v 36, .v 34] <|
        .ite (.v 38) (
         .prim .idx [.v 29, .v 36] <|
         .prim .get [.v 29, .v 39] <|
         .prim (.appv 1) [.v 37, .v 35, .v 40] <|
         .prim .len [.v 40] <|
         .prim .vadd [.v 35, .v 42] <|
         .prim (.bin .add) [.v 36, .c (.int .i64 1)] <|
         .jmp 0 true [.v 43, .v 44, .v 41]) (
         .jmp 1 false [.v 35, .v 37]))) 2 <|
      .jmp 0 false [.v 35, .v 36]) 2 <|
     .prim .sub [.v 31, .c (.int .i64 0), .v 30] <|
     .call 52 F_frame_Sum [.v 32] 1 <|
     .call 97 F_word_Bytes [.v 33] 1 <|
     .prim (.appv 1) [.v 31, .v 30, .v 34] <|
     .prim .len [.v 34] <|
     .prim .vadd [.v 30, .v 36] <|
     .jmp 0 false [.v 37, .v 35]) 2 <|
    .jmp 0 false [.v 10, .c (.int .i64 0), .v 11])) 3 <|
  .sub0 [.int .i64, .sl (.int .u8)] (
   .call 51 F_r05_May [.v 0] 1 <|
   .prim (.un .not) [.v 11] <|
   .ite (.v 12) (
    .jmp 0 false [.c (.int .i64 1), .c .nil]) (
    .prim (.fld 0) [.v 0] <|
    .prim (.conv .u8) [.v 13] <|
    .prim (.fld 1) [.v 0] <|
    .prim (.conv .u8) [.v 15] <|
    .prim (.fld 2) [.v 0] <|
    .prim (.conv .u8) [.v 17] <|
    .prim (.fld 3) [.v 0] <|
    .prim (.conv .u8) [.v 19] <|
    .prim (.fld 4) [.v 0] <|
    .prim (.conv .u8) [.v 21] <|
    .prim (.fld 5) [.v 0] <|
    .prim (.conv .u8) [.v 23] <|
    .mkL (.int .u8) [.v 14, .v 16, .v 18, .v 20, .v 22, .v 24, .c (.int .u8 0)] <|
    .prim (.fld 6) [.v 0] <|
    .sub0 [.sl (.int .u8)] (
     .ite (.v 26) (
      .prim .idx [.v 25, .c (.int .i64 6)] <|
      .prim .set [.v 25, .v 27, .c (.int .u8 1)] <|
      .jmp 0 false [.v 28]) (
      .jmp 0 false [.v 25])) 1 <|
    .prim (.fld 7) [.v 0] <|
    .call 80 F_r01_Bytes [.v 28] 1 <|
    .prim (.app 1) [.v 27, .v 29] <|
    .prim (.fld 8) [.v 0] <|
    .call 80 F_r01_Bytes [.v 31] 1 <|
    .prim (.app 1) [.v 30, .v 32] <|
    .call 53 F_r05_Sum [.v 33] 1 <|
    .call 80 F_r01_Bytes [.v 34] 1 <|
    .prim (.app 1) [.v 33, .v 35] <|
    .jmp 0 false [.c (.int .i64 0), .v 36])) 2 <|
  .call 48 F_frame_Read [.v 7] 2 <|
  .call 49 F_r05_Read [.v 7] 2 <|
  .sub0 [.bool] (
   .call 50 F_frame_May [.v 0] 1 <|
   .call 51 F_r05_May [.v 0] 1 <|
   .prim (.bin .eql) [.v 17, .v 18] <|
   .ite (.v 19) (
    .call 52 F_frame_Sum [.v 7] 1 <|
    .call 53 F_r05_Sum [.v 7] 1 <|
    .prim (.bin .eql) [.v 20, .v 21] <|
    .ite (.v 22) (
     .prim .sub [.v 10, .c (.int .i64 0), .v 8] <|
     .prim .b2s [.v 23] <|
     .prim .b2s [.v 12] <|
     .prim (.bin .eql) [.v 24, .v 25] <|
     .ite (.v 26) (
      .prim (.bin .eql) [.v 9, .v 11] <|
      .ite (.v 27) (
       .prim .eqv [.v 13, .v 15] <|
       .ite (.v 28) (
        .prim (.bin .eql) [.v 14, .v 16] <|
        .jmp 0 false [.v 29]) (
        .jmp 0 false [.c (.bool false)])) (
       .jmp 0 false [.c (.bool false)])) (
      .jmp 0 false [.c (.bool false)])) (
     .jmp 0 false [.c (.bool false)])) (
    .jmp 0 false [.c (.bool false)])) 1 <|
  .jmp 0 false [.v 17])
theorem a_l05_FrameRight : treeOf cx 12 9 = some A_l05_FrameRight.erase := by kernel_rfl
theorem k_l05_FrameRight : FnOk cx 12 noC 9 F_l05_FrameRight := fn_ok (t := A_l05_FrameRight) a_l05_FrameRight (fun _ => rfl) (ok_of [(45, F_l05_awake.fn), (50, F_frame_May), (97, F_word_Bytes), (97, F_word_Bytes), (52, F_frame_Sum), (97, F_word_Bytes), (51, F_r05_May), (80, F_r01_Bytes), (80, F_r01_Bytes), (53, F_r05_Sum), (80, F_r01_Bytes), (48, F_frame_Read), (49, F_r05_Read), (50, F_frame_May), (51, F_r05_May), (52, F_frame_Sum), (53, F_r05_Sum)] (by kernel_rfl) (.cons k_l05_awake (.cons k_frame_May (.cons k_word_Bytes (.cons k_word_Bytes (.cons k_frame_Sum (.cons k_word_Bytes (.cons k_r05_May (.cons k_r01_Bytes (.cons k_r01_Bytes (.cons k_r05_Sum (.cons k_r01_Bytes (.cons k_frame_Read (.cons k_r05_Read (.cons k_frame_May (.cons k_r05_May (.cons k_frame_Sum (.cons k_r05_Sum .nil)))))))))))))))))) (fun x => by kernel_rfl)

end Go.Proofs.Ytklkpogdghiagaa
