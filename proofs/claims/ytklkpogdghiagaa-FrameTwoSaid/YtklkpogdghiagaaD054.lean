/- More functions of this cut as functions of plain typed data. Printed by a program of this claim's prover; each is checked here to be what the executor makes of the code. -/
import Derived.Test.YtklkpogdghiagaaD053
set_option linter.unusedVariables false
set_option maxRecDepth 100000
namespace Go.Proofs.Ytklkpogdghiagaa
open Go.SX
/-! 11: backstay/backstaylaw05.FrameTwo -/
noncomputable def l05_FrameTwo_L1 (x30 : List (List Int)) (x35 : Int) (s : (Int × Int × (List Int))) : Option ((Int × Int × (List Int)) ⊕ (Int × (List Int))) :=
  if decide (s.2.1 < x35) then
    (idxO (List.length x30 : Int) s.2.1).bind fun v40 =>
    (getO x30 v40).bind fun v41 =>
    (appvO 1 s.2.2 s.1 v41).bind fun v42 =>
    some (Sum.inl (s.1 + (List.length v41 : Int), w64 (s.2.1 + (1 : Int)), v42))
  else
    some (Sum.inr ((s.1, s.2.2)))
noncomputable def l05_FrameTwo_L2 (x30 : List (List Int)) (x31 : Int) (s : (Int × Int)) : Option ((Int × Int) ⊕ Int) :=
  if decide (s.2 < x31) then
    (idxO (List.length x30 : Int) s.2).bind fun v35 =>
    (getO x30 v35).bind fun v36 =>
    let v38 : Int := w64 (s.1 + (List.length v36 : Int))
    if decide (v38 < (0 : Int)) then
      none
    else
      some (Sum.inl (v38, w64 (s.2 + (1 : Int))))
  else
    some (Sum.inr (s.1))
noncomputable def l05_FrameTwo (p0 : Msg) (p1 : Msg) (p2 : Int) (p3 : Int) : Option Bool :=
  if !l05_awake then
    some (false)
  else
    (
      (frame_May p0).bind fun v6 =>
      if !v6 then
        some (((0 : Int), (1 : Int), ([] : List Int)))
      else
        (
          (word_Bytes (Msg.Num p0)).bind fun v24 =>
          (word_Bytes (Msg.Val p0)).bind fun v26 =>
          let v27 : List (List Int) := ([([wu8 (Msg.Kind p0), wu8 (Msg.From p0), wu8 (Msg.To p0), wu8 (Msg.Line p0), wu8 (Msg.For p0), wu8 (Msg.Acks p0), bif Msg.Own p0 then (1 : Int) else (0 : Int)] : List Int), v24, v26] : List (List Int))
          (
            let v28 : Int := (List.length v27 : Int)
            (
              loopD (l05_FrameTells_L4 v27 v28) ((0 : Int), (0 : Int)) : Option Int).bind fun v29 =>
            (
              if decide (v29 < (0 : Int)) then
                none
              else
                let v31 : Int := w64 (v29 - (0 : Int))
                (
                  if decide ((0 : Int) < v31) then
                    (zextO (0 : Int) 1 ([] : List Int) v31).bind fun v33 =>
                    (rngO (List.length v33 : Int) (0 : Int) (0 : Int)).bind fun v35 =>
                    some ((v35, v33))
                  else
                    some (((0 : Int), ([] : List Int))) : Option (Int × (List Int))).bind fun v33 =>
                some ((v33.1, v33.2)) : Option (Int × (List Int))).bind fun v30 =>
            let v32 : Int := (List.length v27 : Int)
            (
              loopD (l05_FrameTells_L3 v27 v32) (v30.1, (0 : Int), v30.2) : Option (Int × (List Int))).bind fun v33 =>
            some ((v33.1, v33.2)) : Option (Int × (List Int))).bind fun v28 =>
          (subO v28.2 (0 : Int) v28.1).bind fun v30 =>
          (frame_Sum v30).bind fun v31 =>
          (word_Bytes v31).bind fun v32 =>
          (appvO 1 v28.2 v28.1 v32).bind fun v33 =>
          some ((v28.1 + (List.length v32 : Int), v33)) : Option (Int × (List Int))).bind fun v8 =>
        some ((v8.1, (0 : Int), v8.2)) : Option (Int × Int × (List Int))).bind fun v6 =>
    (
      (frame_May p1).bind fun v9 =>
      if !v9 then
        some (((0 : Int), (1 : Int), ([] : List Int)))
      else
        (
          (word_Bytes (Msg.Num p1)).bind fun v27 =>
          (word_Bytes (Msg.Val p1)).bind fun v29 =>
          let v30 : List (List Int) := ([([wu8 (Msg.Kind p1), wu8 (Msg.From p1), wu8 (Msg.To p1), wu8 (Msg.Line p1), wu8 (Msg.For p1), wu8 (Msg.Acks p1), bif Msg.Own p1 then (1 : Int) else (0 : Int)] : List Int), v27, v29] : List (List Int))
          (
            let v31 : Int := (List.length v30 : Int)
            (
              loopD (l05_FrameTwo_L2 v30 v31) ((0 : Int), (0 : Int)) : Option Int).bind fun v32 =>
            (
              if decide (v32 < (0 : Int)) then
                none
              else
                let v34 : Int := w64 (v32 - (0 : Int))
                (
                  if decide ((0 : Int) < v34) then
                    (zextO (0 : Int) 1 ([] : List Int) v34).bind fun v36 =>
                    (rngO (List.length v36 : Int) (0 : Int) (0 : Int)).bind fun v38 =>
                    some ((v38, v36))
                  else
                    some (((0 : Int), ([] : List Int))) : Option (Int × (List Int))).bind fun v36 =>
                some ((v36.1, v36.2)) : Option (Int × (List Int))).bind fun v33 =>
            let v35 : Int := (List.length v30 : Int)
            (
              loopD (l05_FrameTwo_L1 v30 v35) (v33.1, (0 : Int), v33.2) : Option (Int × (List Int))).bind fun v36 =>
            some ((v36.1, v36.2)) : Option (Int × (List Int))).bind fun v31 =>
          (subO v31.2 (0 : Int) v31.1).bind fun v33 =>
          (frame_Sum v33).bind fun v34 =>
          (word_Bytes v34).bind fun v35 =>
          (appvO 1 v31.2 v31.1 v35).bind fun v36 =>
          some ((v31.1 + (List.length v35 : Int), v36)) : Option (Int × (List Int))).bind fun v11 =>
        some ((v11.1, (0 : Int), v11.2)) : Option (Int × Int × (List Int))).bind fun v9 =>
    if (!decide (v6.2.1 = (0 : Int))) || (!decide (v9.2.1 = (0 : Int))) then
      (
        (frame_May p0).bind fun v13 =>
        if !v13 then
          some (true)
        else
          (frame_May p1).bind fun v15 =>
          some ((!v15)) : Option Bool).bind fun v13 =>
      some (v13)
    else
      (subO v6.2.2 (0 : Int) v6.1).bind fun v13 =>
      (b2sO v13).bind fun v14 =>
      (subO v9.2.2 (0 : Int) v9.1).bind fun v15 =>
      (b2sO v15).bind fun v16 =>
      if !decide ((decide (v14 = v16)) = (@decide (p0 = p1) (Ty.dec tMsg _ _))) then
        some (false)
      else
        (remO (w64 p2) (152 : Int)).bind fun v21 =>
        (remO (w64 p3) (152 : Int)).bind fun v23 =>
        if decide (v21 = v23) then
          some (true)
        else
          (quoO .i64 v21 (8 : Int)).bind fun v25 =>
          (quoO .i64 v21 (8 : Int)).bind fun v26 =>
          (idxvO (0 : Int) v6.1 v26).bind fun v27 =>
          (getO v6.2.2 v27).bind fun v28 =>
          (remO v21 (8 : Int)).bind fun v29 =>
          (shlO .u8 (1 : Int) (wu64 v29)).bind fun v31 =>
          (idxvO (0 : Int) v6.1 v25).bind fun v33 =>
          (setO v6.2.2 v33 (bXor .u8 v28 v31)).bind fun v34 =>
          (quoO .i64 v23 (8 : Int)).bind fun v35 =>
          (quoO .i64 v23 (8 : Int)).bind fun v36 =>
          (idxvO (0 : Int) v6.1 v36).bind fun v37 =>
          (getO v34 v37).bind fun v38 =>
          (remO v23 (8 : Int)).bind fun v39 =>
          (shlO .u8 (1 : Int) (wu64 v39)).bind fun v41 =>
          (idxvO (0 : Int) v6.1 v35).bind fun v43 =>
          (setO v34 v43 (bXor .u8 v38 v41)).bind fun v44 =>
          (subO v44 (0 : Int) v6.1).bind fun v45 =>
          (frame_Read v45).bind fun v46 =>
          some (((decide (v46.2 = (5 : Int))) && (@decide (v46.1 = (Msg.mk (0 : Int) (0 : Int) (0 : Int) (0 : Int) (0 : Int) (0 : Int) false (0 : Int) (0 : Int))) (Ty.dec tMsg _ _))))
noncomputable def F_l05_FrameTwo : FnT := ⟨[tMsg, tMsg, .int .u8, .int .u8], [.bool], fun x => l05_FrameTwo x.1 x.2.1 x.2.2.1 x.2.2.2⟩
noncomputable def A_l05_FrameTwo : TA :=
 .callp 45 F_l05_awake [] 1 <|
 .prim (.un .not) [.v 4] <|
 .ite (.v 5) (
  .jmp 0 false [.c (.bool false)]) (
  .sub0 [.int .i64, .int .i64, .sl (.int .u8)] (
   .call 50 F_frame_May [.v 0] 1 <|
   .prim (.un .not) [.v 6] <|
   .ite (.v 7) (
    .jmp 0 false [.c (.int .i64 0), .c (.int .i64 1), .c .nil]) (
    .sub0 [.int .i64, .sl (.int .u8)] (
     .prim (.fld 6) [.v 0] <|
     .subp [.int .u8] (
      .ite (.v 8) (
       .jmp 0 false [.c (.int .u8 1)]) (
       .jmp 0 false [.c (.int .u8 0)])) 1 <|
     .prim (.fld 0) [.v 0] <|
     .prim (.conv .u8) [.v 10] <|
     .prim (.fld 1) [.v 0] <|
     .prim (.conv .u8) [.v 12] <|
     .prim (.fld 2) [.v 0] <|
     .prim (.conv .u8) [.v 14] <|
     .prim (.fld 3) [.v 0] <|
     .prim (.conv .u8) [.v 16] <|
     .prim (.fld 4) [.v 0] <|
     .prim (.conv .u8) [.v 18] <|
     .prim (.fld 5) [.v 0] <|
     .prim (.conv .u8) [.v 20] <|
     .mkL (.int .u8) [.v 11, .v 13, .v 15, .v 17, .v 19, .v 21, .v 9] <|
     .prim (.fld 7) [.v 0] <|
     .call 97 F_word_Bytes [.v 23] 1 <|
     .prim (.fld 8) [.v 0] <|
     .call 97 F_word_Bytes [.v 25] 1 <|
     .mkL (.sl (.int .u8)) [.v 22, .v 24, .v 26] <|
     .sub0 [.int .i64, .sl (.int .u8)] (
      .prim .len [.v 27] <|
      .sub0 [.int .i64] (
       .loop [.int .i64, .int .i64] [.c (.int .i64 0), .c (.int .i64 0)] (
        .prim (.bin .lss) [.v 30, .v 28] <|
        .ite (.v 31) (
         .prim .idx [.v 27, .v 30] <|
         .prim .get [.v 27, .v 32] <|
         .prim .len [.v 33] <|
         .prim (.bin .add) [.v 29, .v 34] <|
         .prim (.bin .lss) [.v 35, .c (.int .i64 0)] <|
         .ite (.v 36) (
          .fail 153) (
          .prim (.bin .add) [.v 30, .c (.int .i64 1)] <|
          .jmp 0 true [.v 35, .v 37])) (
         .jmp 1 false [.v 29]))) 1 <|
      .sub0 [.int .i64, .sl (.int .u8)] (
       .prim (.bin .lss) [.v 29, .c (.int .i64 0)] <|
       .ite (.v 30) (
        .fail 153) (
        .prim (.bin .sub) [.v 29, .c (.int .i64 0)] <|
        .prim (.bin .gtr) [.v 31, .c (.int .i64 0)] <|
        .sub0 [.int .i64, .sl (.int .u8)] (
         .ite (.v 32) (
          .primH (.zext (.int .u8 0) 1) (.sl (.int .u8)) [.c .nil, .v 31] <|
          .prim .len [.v 33] <|
          .prim .rng [.v 33, .c (.int .i64 0), .c (.int .i64 0)] <|
          .jmp 0 false [.v 35, .v 33]) (
          .jmp 0 false [.c (.int .i64 0), .c .nil])) 2 <|
        .jmp 0 false [.v 33, .v 34])) 2 <|
      .prim .len [.v 27] <|
      .sub0 [.int .i64, .sl (.int .u8)] (
       .loop [.int .i64, .int .i64, .sl (.int .u8)] [.v 30, .c (.int .i64 0), .v 31] (
        .prim (.bin .lss) [.v 34, .v 32] <|
        .ite (.v 36) (
         .prim .idx [.v 27, .v 34] <|
         .prim .get [.v 27, .v 37] <|
         .prim (.appv 1) [.v 35, .v 33, .v 38] <|
         .prim .len [.v 38] <|
         .prim .vadd [.v 33, .v 40] <|
         .prim (.bin .add) [.v 34, .c (.int .i64 1)] <|
         .jmp 0 true [.v 41, .v 42, .v 39]) (
         .jmp 1 false [.v 33, .v 35]))) 2 <|
      .jmp 0 false [.v 33, .v 34]) 2 <|
     .prim .sub [.v 29, .c (.int .i64 0), .v 28] <|
     .call 52 F_frame_Sum [.v 30] 1 <|
     .call 97 F_word_Bytes [.v 31] 1 <|
     .prim (.appv 1) [.v 29, .v 28, .v 32] <|
     .prim .len [.v 32] <|
     .prim .vadd [.v 28, .v 34] <|
     .jmp 0 false [.v 35, .v 33]) 2 <|
    .jmp 0 false [.v 8, .c (.int .i64 0), .v 9])) 3 <|
  .sub0 [.int .i64, .int .i64, .sl (.int .u8)] (
   .call 50 F_frame_May [.v 1] 1 <|
   .prim (.un .not) [.v 9] <|
   .ite (.v 10) (
    .jmp 0 false [.c (.int .i64 0), .c (.int .i64 1), .c .nil]) (
    .sub0 [.int .i64, .sl (.int .u8)] (
     .prim (.fld 6) [.v 1] <|
     .subp [.int .u8] (
      .ite (.v 11) (
       .jmp 0 false [.c (.int .u8 1)]) (
       .jmp 0 false [.c (.int .u8 0)])) 1 <|
     .prim (.fld 0) [.v 1] <|
     .prim (.conv .u8) [.v 13] <|
     .prim (.fld 1) [.v 1] <|
     .prim (.conv .u8) [.v 15] <|
     .prim (.fld 2) [.v 1] <|
     .prim (.conv .u8) [.v 17] <|
     .prim (.fld 3) [.v 1] <|
     .prim (.conv .u8) [.v 19] <|
     .prim (.fld 4) [.v 1] <|
     .prim (.conv .u8) [.v 21] <|
     .prim (.fld 5) [.v 1] <|
     .prim (.conv .u8) [.v 23] <|
     .mkL (.int .u8) [.v 14, .v 16, .v 18, .v 20, .v 22, .v 24, .v 12] <|
     .prim (.fld 7) [.v 1] <|
     .call 97 F_word_Bytes [.v 26] 1 <|
     .prim (.fld 8) [.v 1] <|
     .call 97 F_word_Bytes [.v 28] 1 <|
     .mkL (.sl (.int .u8)) [.v 25, .v 27, .v 29] <|
     .sub0 [.int .i64, .sl (.int .u8)] (
      .prim .len [.v 30] <|
      .sub0 [.int .i64] (
       .loop [.int .i64, .int .i64] [.c (.int .i64 0), .c (.int .i64 0)] (
        .prim (.bin .lss) [.v 33, .v 31] <|
        .ite (.v 34) (
         .prim .idx [.v 30, .v 33] <|
         .prim .get [.v 30, .v 35] <|
         .prim .len [.v 36] <|
         .prim (.bin .add) [.v 32, .v 37] <|
         .prim (.bin .lss) [.v 38, .c (.int .i64 0)] <|
         .ite (.v 39) (
          .fail 153) (
          .prim (.bin .add) [.v 33, .c (.int .i64 1)] <|
          .jmp 0 true [.v 38, .v 40])) (
         .jmp 1 false [.v 32]))) 1 <|
      .sub0 [.int .i64, .sl (.int .u8)] (
       .prim (.bin .lss) [.v 32, .c (.int .i64 0)] <|
       .ite (.v 33) (
        .fail 153) (
        .prim (.bin .sub) [.v 32, .c (.int .i64 0)] <|
        .prim (.bin .gtr) [.v 34, .c (.int .i64 0)] <|
        .sub0 [.int .i64, .sl (.int .u8)] (
         .ite (.v 35) (
          .primH (.zext (.int .u8 0) 1) (.sl (.int .u8)) [.c .nil, .v 34] <|
          .prim .len [.v 36] <|
          .prim .rng [.v 36, .c (.int .i64 0), .c (.int .i64 0)] <|
          .jmp 0 false [.v 38, .v 36]) (
          .jmp 0 false [.c (.int .i64 0), .c .nil])) 2 <|
        .jmp 0 false [.v 36, .v 37])) 2 <|
      .prim .len [.v 30] <|
      .sub0 [.int .i64, .sl (.int .u8)] (
       .loop [.int .i64, .int .i64, .sl (.int .u8)] [.v 33, .c (.int .i64 0), .v 34] (
        .prim (.bin .lss) [.v 37, .v 35] <|
        .ite (.v 39) (
         .prim .idx [.v 30, .v 37] <|
         .prim .get [.v 30, .v 40] <|
         .prim (.appv 1) [.v 38, .v 36, .v 41] <|
         .prim .len [.v 41] <|
         .prim .vadd [.v 36, .v 43] <|
         .prim (.bin .add) [.v 37, .c (.int .i64 1)] <|
         .jmp 0 true [.v 44, .v 45, .v 42]) (
         .jmp 1 false [.v 36, .v 38]))) 2 <|
      .jmp 0 false [.v 36, .v 37]) 2 <|
     .prim .sub [.v 32, .c (.int .i64 0), .v 31] <|
     .call 52 F_frame_Sum [.v 33] 1 <|
     .call 97 F_word_Bytes [.v 34] 1 <|
     .prim (.appv 1) [.v 32, .v 31, .v 35] <|
     .prim .len [.v 35] <|
     .prim .vadd [.v 31, .v 37] <|
     .jmp 0 false [.v 38, .v 36]) 2 <|
    .jmp 0 false [.v 11, .c (.int .i64 0), .v 12])) 3 <|
  .subp [.bool] (
   .prim (.bin .neq) [.v 7, .c (.int .i64 0)] <|
   .ite (.v 12) (
    .jmp 0 false [.c (.bool true)]) (
    .prim (.bin .neq) [.v 10, .c (.int .i64 0)] <|
    .jmp 0 false [.v 13])) 1 <|
  .ite (.v 12) (
   .sub0 [.bool] (
    .call 50 F_frame_May [.v 0] 1 <|
    .prim (.un .not) [.v 13] <|
    .ite (.v 14) (
     .jmp 0 false [.c (.bool true)]) (
     .call 50 F_frame_May [.v 1] 1 <|
     .prim (.un .not) [.v 15] <|
     .jmp 0 false [.v 16])) 1 <|
   .jmp 0 false [.v 13]) (
   .prim .sub [.v 8, .c (.int .i64 0), .v 6] <|
   .prim .b2s [.v 13] <|
   .prim .sub [.v 11, .c (.int .i64 0), .v 9] <|
   .prim .b2s [.v 15] <|
   .prim (.bin .eql) [.v 14, .v 16] <|
   .prim .eqv [.v 0, .v 1] <|
   .prim (.bin .neq) [.v 17, .v 18] <|
   .ite (.v 19) (
    .jmp 0 false [.c (.bool false)]) (
    .prim (.conv .i64) [.v 2] <|
    .prim (.bin .rem) [.v 20, .c (.int .i64 152)] <|
    .prim (.conv .i64) [.v 3] <|
    .prim (.bin .rem) [.v 22, .c (.int .i64 152)] <|
    .prim (.bin .eql) [.v 21, .v 23] <|
    .ite (.v 24) (
     .jmp 0 false [.c (.bool true)]) (
     .prim (.bin .quo) [.v 21, .c (.int .i64 8)] <|
     .prim (.bin .quo) [.v 21, .c (.int .i64 8)] <|
     .prim .idxv [.c (.int .i64 0), .v 6, .v 26] <|
     .prim .get [.v 8, .v 27] <|
     .prim (.bin .rem) [.v 21, .c (.int .i64 8)] <|
     .prim (.conv .u64) [.v 29] <|
     .prim (.bin .shl) [.c (.int .u8 1), .v 30] <|
     .prim (.bin .xor) [.v 28, .v 31] <|
     .prim .idxv [.c (.int .i64 0), .v 6, .v 25] <|
     .prim .set [.v 8, .v 33, .v 32] <|
     .prim (.bin .quo) [.v 23, .c (.int .i64 8)] <|
     .prim (.bin .quo) [.v 23, .c (.int .i64 8)] <|
     .prim .idxv [.c (.int .i64 0), .v 6, .v 36] <|
     .prim .get [.v 34, .v 37] <|
     .prim (.bin .rem) [.v 23, .c (.int .i64 8)] <|
     .prim (.conv .u64) [.v 39] <|
     .prim (.bin .shl) [.c (.int .u8 1), .v 40] <|
     .prim (.bin .xor) [.v 38, .v 41] <|
     .prim .idxv [.c (.int .i64 0), .v 6, .v 35] <|
     .prim .set [.v 34, .v 43, .v 42] <|
     .prim .sub [.v 44, .c (.int .i64 0), .v 6] <|
     .call 48 F_frame_Read [.v 45] 2 <|
     .subp [.bool] (
      .prim (.bin .eql) [.v 47, .c (.int .i64 5)] <|
      .ite (.v 48) (
       .primH .eqv tMsg [.v 46, .c (.agg [(.int .i64 0), (.int .i64 0), (.int .i64 0), (.int .i64 0), (.int .i64 0), (.int .i64 0), (.bool false), (.int .u32 0), (.int .u32 0)])] <|
       .jmp 0 false [.v 49]) (
       .jmp 0 false [.c (.bool false)])) 1 <|
     .jmp 0 false [.v 48]))))
theorem a_l05_FrameTwo : treeOf cx 12 11 = some A_l05_FrameTwo.erase := by kernel_rfl
theorem k_l05_FrameTwo : FnOk cx 12 noC 11 F_l05_FrameTwo := fn_ok (t := A_l05_FrameTwo) a_l05_FrameTwo (fun _ => rfl) (ok_of [(45, F_l05_awake.fn), (50, F_frame_May), (97, F_word_Bytes), (97, F_word_Bytes), (52, F_frame_Sum), (97, F_word_Bytes), (50, F_frame_May), (97, F_word_Bytes), (97, F_word_Bytes), (52, F_frame_Sum), (97, F_word_Bytes), (50, F_frame_May), (50, F_frame_May), (48, F_frame_Read)] (by kernel_rfl) (.cons k_l05_awake (.cons k_frame_May (.cons k_word_Bytes (.cons k_word_Bytes (.cons k_frame_Sum (.cons k_word_Bytes (.cons k_frame_May (.cons k_word_Bytes (.cons k_word_Bytes (.cons k_frame_Sum (.cons k_word_Bytes (.cons k_frame_May (.cons k_frame_May (.cons k_frame_Read .nil))))))))))))))) (fun x => by kernel_rfl)

end Go.Proofs.Ytklkpogdghiagaa
