/- More functions of this cut as functions of plain typed data. Printed by a program of this claim's prover; each is checked here to be what the executor makes of the code. -/
import Derived.Test.YtklkpogdghiagaaD052
set_option linter.unusedVariables false
set_option maxRecDepth 100000
namespace Go.Proofs.Ytklkpogdghiagaa
open Go.SX
/-! 10: backstay/backstaylaw05.FrameTells -/
noncomputable def l05_FrameTells_L1 (x38 : List (List Int)) (x43 : Int) (s : (Int × Int × (List Int))) : Option ((Int × Int × (List Int)) ⊕ (Int × (List Int))) :=
  if decide (s.2.1 < x43) then
    (idxO (List.length x38 : Int) s.2.1).bind fun v48 =>
    (getO x38 v48).bind fun v49 =>
    (appvO 1 s.2.2 s.1 v49).bind fun v50 =>
    some (Sum.inl (s.1 + (List.length v49 : Int), w64 (s.2.1 + (1 : Int)), v50))
  else
    some (Sum.inr ((s.1, s.2.2)))
noncomputable def l05_FrameTells_L2 (x38 : List (List Int)) (x39 : Int) (s : (Int × Int)) : Option ((Int × Int) ⊕ Int) :=
  if decide (s.2 < x39) then
    (idxO (List.length x38 : Int) s.2).bind fun v43 =>
    (getO x38 v43).bind fun v44 =>
    let v46 : Int := w64 (s.1 + (List.length v44 : Int))
    if decide (v46 < (0 : Int)) then
      none
    else
      some (Sum.inl (v46, w64 (s.2 + (1 : Int))))
  else
    some (Sum.inr (s.1))
noncomputable def l05_FrameTells_L3 (x27 : List (List Int)) (x32 : Int) (s : (Int × Int × (List Int))) : Option ((Int × Int × (List Int)) ⊕ (Int × (List Int))) :=
  if decide (s.2.1 < x32) then
    (idxO (List.length x27 : Int) s.2.1).bind fun v37 =>
    (getO x27 v37).bind fun v38 =>
    (appvO 1 s.2.2 s.1 v38).bind fun v39 =>
    some (Sum.inl (s.1 + (List.length v38 : Int), w64 (s.2.1 + (1 : Int)), v39))
  else
    some (Sum.inr ((s.1, s.2.2)))
noncomputable def l05_FrameTells_L4 (x27 : List (List Int)) (x28 : Int) (s : (Int × Int)) : Option ((Int × Int) ⊕ Int) :=
  if decide (s.2 < x28) then
    (idxO (List.length x27 : Int) s.2).bind fun v32 =>
    (getO x27 v32).bind fun v33 =>
    let v35 : Int := w64 (s.1 + (List.length v33 : Int))
    if decide (v35 < (0 : Int)) then
      none
    else
      some (Sum.inl (v35, w64 (s.2 + (1 : Int))))
  else
    some (Sum.inr (s.1))
noncomputable def l05_FrameTells (p0 : Msg) (p1 : Int) (p2 : Int) (p3 : List Int) : Option Bool :=
  if !l05_awake then
    some (false)
  else
    (
      (frame_May p0).bind fun v6 =>
      if !v6 then
        some (((0 : Int), (1 : Int), ([] : List Int)))
      else
        (
          (word_Bytes (Msg.Num p0)).bind fun v24 =>
          (word_Bytes (Msg.Val p0)).bind fun v26 =>
          let v27 : List (List Int) := ([([wu8 (Msg.Kind p0), wu8 (Msg.From p0), wu8 (Msg.To p0), wu8 (Msg.Line p0), wu8 (Msg.For p0), wu8 (Msg.Acks p0), bif Msg.Own p0 then (1 : Int) else (0 : Int)] : List Int), v24, v26] : List (List Int))
          (
            let v28 : Int := (List.length v27 : Int)
            (
              loopD (l05_FrameTells_L4 v27 v28) ((0 : Int), (0 : Int)) : Option Int).bind fun v29 =>
            (
              if decide (v29 < (0 : Int)) then
                none
              else
                let v31 : Int := w64 (v29 - (0 : Int))
                (
                  if decide ((0 : Int) < v31) then
                    (zextO (0 : Int) 1 ([] : List Int) v31).bind fun v33 =>
                    (rngO (List.length v33 : Int) (0 : Int) (0 : Int)).bind fun v35 =>
                    some ((v35, v33))
                  else
                    some (((0 : Int), ([] : List Int))) : Option (Int × (List Int))).bind fun v33 =>
                some ((v33.1, v33.2)) : Option (Int × (List Int))).bind fun v30 =>
            let v32 : Int := (List.length v27 : Int)
            (
              loopD (l05_FrameTells_L3 v27 v32) (v30.1, (0 : Int), v30.2) : Option (Int × (List Int))).bind fun v33 =>
            some ((v33.1, v33.2)) : Option (Int × (List Int))).bind fun v28 =>
          (subO v28.2 (0 : Int) v28.1).bind fun v30 =>
          (frame_Sum v30).bind fun v31 =>
          (word_Bytes v31).bind fun v32 =>
          (appvO 1 v28.2 v28.1 v32).bind fun v33 =>
          some ((v28.1 + (List.length v32 : Int), v33)) : Option (Int × (List Int))).bind fun v8 =>
        some ((v8.1, (0 : Int), v8.2)) : Option (Int × Int × (List Int))).bind fun v6 =>
    orExit (
      if decide (v6.2.1 = (0 : Int)) then
        (subO v6.2.2 (0 : Int) v6.1).bind fun v10 =>
        (frame_Read v10).bind fun v11 =>
        (remO (w64 p1) (v6.1 - (0 : Int))).bind fun v15 =>
        (idxvO (0 : Int) v6.1 v15).bind fun v16 =>
        (getO v6.2.2 v16).bind fun v17 =>
        (remO p2 (8 : Int)).bind fun v18 =>
        (shlO .u8 (1 : Int) (wu64 v18)).bind fun v20 =>
        (idxvO (0 : Int) v6.1 v15).bind fun v22 =>
        (setO v6.2.2 v22 (bXor .u8 v17 v20)).bind fun v23 =>
        (subO v23 (0 : Int) v6.1).bind fun v24 =>
        (frame_Read v24).bind fun v25 =>
        if (!decide (v11.2 = (0 : Int))) || ((!(@decide (v11.1 = p0) (Ty.dec tMsg _ _))) || ((!decide (v25.2 = (5 : Int))) || (!(@decide (v25.1 = (Msg.mk (0 : Int) (0 : Int) (0 : Int) (0 : Int) (0 : Int) (0 : Int) false (0 : Int) (0 : Int))) (Ty.dec tMsg _ _))))) then
          some (Sum.inr (false))
        else
          some (Sum.inl ())
      else
        some (Sum.inl ()) : Option (Unit ⊕ Bool)) fun v10 =>
    (subO p3 (0 : Int) (minT (List.length p3 : Int) (1000 : Int))).bind fun v13 =>
    (frame_Read v13).bind fun v14 =>
    if !decide (v14.2 = (0 : Int)) then
      some ((@decide (v14.1 = (Msg.mk (0 : Int) (0 : Int) (0 : Int) (0 : Int) (0 : Int) (0 : Int) false (0 : Int) (0 : Int))) (Ty.dec tMsg _ _)))
    else
      (
        (frame_May v14.1).bind fun v17 =>
        if !v17 then
          some (((0 : Int), (1 : Int), ([] : List Int)))
        else
          (
            (word_Bytes (Msg.Num v14.1)).bind fun v35 =>
            (word_Bytes (Msg.Val v14.1)).bind fun v37 =>
            let v38 : List (List Int) := ([([wu8 (Msg.Kind v14.1), wu8 (Msg.From v14.1), wu8 (Msg.To v14.1), wu8 (Msg.Line v14.1), wu8 (Msg.For v14.1), wu8 (Msg.Acks v14.1), bif Msg.Own v14.1 then (1 : Int) else (0 : Int)] : List Int), v35, v37] : List (List Int))
            (
              let v39 : Int := (List.length v38 : Int)
              (
                loopD (l05_FrameTells_L2 v38 v39) ((0 : Int), (0 : Int)) : Option Int).bind fun v40 =>
              (
                if decide (v40 < (0 : Int)) then
                  none
                else
                  let v42 : Int := w64 (v40 - (0 : Int))
                  (
                    if decide ((0 : Int) < v42) then
                      (zextO (0 : Int) 1 ([] : List Int) v42).bind fun v44 =>
                      (rngO (List.length v44 : Int) (0 : Int) (0 : Int)).bind fun v46 =>
                      some ((v46, v44))
                    else
                      some (((0 : Int), ([] : List Int))) : Option (Int × (List Int))).bind fun v44 =>
                  some ((v44.1, v44.2)) : Option (Int × (List Int))).bind fun v41 =>
              let v43 : Int := (List.length v38 : Int)
              (
                loopD (l05_FrameTells_L1 v38 v43) (v41.1, (0 : Int), v41.2) : Option (Int × (List Int))).bind fun v44 =>
              some ((v44.1, v44.2)) : Option (Int × (List Int))).bind fun v39 =>
            (subO v39.2 (0 : Int) v39.1).bind fun v41 =>
            (frame_Sum v41).bind fun v42 =>
            (word_Bytes v42).bind fun v43 =>
            (appvO 1 v39.2 v39.1 v43).bind fun v44 =>
            some ((v39.1 + (List.length v43 : Int), v44)) : Option (Int × (List Int))).bind fun v19 =>
          some ((v19.1, (0 : Int), v19.2)) : Option (Int × Int × (List Int))).bind fun v17 =>
      (
        if decide (v17.2.1 = (0 : Int)) then
          (subO v17.2.2 (0 : Int) v17.1).bind fun v21 =>
          (b2sO v21).bind fun v22 =>
          (b2sO v13).bind fun v23 =>
          some ((decide (v22 = v23)))
        else
          some (false) : Option Bool).bind fun v20 =>
      some (v20)
noncomputable def F_l05_FrameTells : FnT := ⟨[tMsg, .int .u8, .int .u8, .sl (.int .u8)], [.bool], fun x => l05_FrameTells x.1 x.2.1 x.2.2.1 x.2.2.2⟩
noncomputable def A_l05_FrameTells : TA :=
 .callp 45 F_l05_awake [] 1 <|
 .prim (.un .not) [.v 4] <|
 .ite (.v 5) (
  .jmp 0 false [.c (.bool false)]) (
  .sub0 [.int .i64, .int .i64, .sl (.int .u8)] (
   .call 50 F_frame_May [.v 0] 1 <|
   .prim (.un .not) [.v 6] <|
   .ite (.v 7) (
    .jmp 0 false [.c (.int .i64 0), .c (.int .i64 1), .c .nil]) (
    .sub0 [.int .i64, .sl (.int .u8)] (
     .prim (.fld 6) [.v 0] <|
     .subp [.int .u8] (
      .ite (.v 8) (
       .jmp 0 false [.c (.int .u8 1)]) (
       .jmp 0 false [.c (.int .u8 0)])) 1 <|
     .prim (.fld 0) [.v 0] <|
     .prim (.conv .u8) [.v 10] <|
     .prim (.fld 1) [.v 0] <|
     .prim (.conv .u8) [.v 12] <|
     .prim (.fld 2) [.v 0] <|
     .prim (.conv .u8) [.v 14] <|
     .prim (.fld 3) [.v 0] <|
     .prim (.conv .u8) [.v 16] <|
     .prim (.fld 4) [.v 0] <|
     .prim (.conv .u8) [.v 18] <|
     .prim (.fld 5) [.v 0] <|
     .prim (.conv .u8) [.v 20] <|
     .mkL (.int .u8) [.v 11, .v 13, .v 15, .v 17, .v 19, .v 21, .v 9] <|
     .prim (.fld 7) [.v 0] <|
     .call 97 F_word_Bytes [.v 23] 1 <|
     .prim (.fld 8) [.v 0] <|
     .call 97 F_word_Bytes [.v 25] 1 <|
     .mkL (.sl (.int .u8)) [.v 22, .v 24, .v 26] <|
     .sub0 [.int .i64, .sl (.int .u8)] (
      .prim .len [.v 27] <|
      .sub0 [.int .i64] (
       .loop [.int .i64, .int .i64] [.c (.int .i64 0), .c (.int .i64 0)] (
        .prim (.bin .lss) [.v 30, .v 28] <|
        .ite (.v 31) (
         .prim .idx [.v 27, .v 30] <|
         .prim .get [.v 27, .v 32] <|
         .prim .len [.v 33] <|
         .prim (.bin .add) [.v 29, .v 34] <|
         .prim (.bin .lss) [.v 35, .c (.int .i64 0)] <|
         .ite (.v 36) (
          .fail 153) (
          .prim (.bin .add) [.v 30, .c (.int .i64 1)] <|
          .jmp 0 true [.v 35, .v 37])) (
         .jmp 1 false [.v 29]))) 1 <|
      .sub0 [.int .i64, .sl (.int .u8)] (
       .prim (.bin .lss) [.v 29, .c (.int .i64 0)] <|
       .ite (.v 30) (
        .fail 153) (
        .prim (.bin .sub) [.v 29, .c (.int .i64 0)] <|
        .prim (.bin .gtr) [.v 31, .c (.int .i64 0)] <|
        .sub0 [.int .i64, .sl (.int .u8)] (
         .ite (.v 32) (
          .primH (.zext (.int .u8 0) 1) (.sl (.int .u8)) [.c .nil, .v 31] <|
          .prim .len [.v 33] <|
          .prim .rng [.v 33, .c (.int .i64 0), .c (.int .i64 0)] <|
          .jmp 0 false [.v 35, .v 33]) (
          .jmp 0 false [.c (.int .i64 0), .c .nil])) 2 <|
        .jmp 0 false [.v 33, .v 34])) 2 <|
      .prim .len [.v 27] <|
      .sub0 [.int .i64, .sl (.int .u8)] (
       .loop [.int .i64, .int .i64, .sl (.int .u8)] [.v 30, .c (.int .i64 0), .v 31] (
        .prim (.bin .lss) [.v 34, .v 32] <|
        .ite (.v 36) (
         .prim .idx [.v 27, .v 34] <|
         .prim .get [.v 27, .v 37] <|
         .prim (.appv 1) [.v 35, .v 33, .v 38] <|
         .prim .len [.v 38] <|
         .prim .vadd [.v 33, .v 40] <|
         .prim (.bin .add) [.v 34, .c (.int .i64 1)] <|
         .jmp 0 true [.v 41, .v 42, .v 39]) (
         .jmp 1 false [.v 33, .v 35]))) 2 <|
      .jmp 0 false [.v 33, .v 34]) 2 <|
     .prim .sub [.v 29, .c (.int .i64 0), .v 28] <|
     .call 52 F_frame_Sum [.v 30] 1 <|
     .call 97 F_word_Bytes [.v 31] 1 <|
     .prim (.appv 1) [.v 29, .v 28, .v 32] <|
     .prim .len [.v 32] <|
     .prim .vadd [.v 28, .v 34] <|
     .jmp 0 false [.v 35, .v 33]) 2 <|
    .jmp 0 false [.v 8, .c (.int .i64 0), .v 9])) 3 <|
  .prim (.bin .eql) [.v 7, .c (.int .i64 0)] <|
  .sub1 [] (
   .ite (.v 9) (
    .prim .sub [.v 8, .c (.int .i64 0), .v 6] <|
    .call 48 F_frame_Read [.v 10] 2 <|
    .prim (.conv .i64) [.v 1] <|
    .prim .vlen [.c (.int .i64 0), .v 6] <|
    .prim (.bin .rem) [.v 13, .v 14] <|
    .prim .idxv [.c (.int .i64 0), .v 6, .v 15] <|
    .prim .get [.v 8, .v 16] <|
    .prim (.bin .rem) [.v 2, .c (.int .u8 8)] <|
    .prim (.conv .u64) [.v 18] <|
    .prim (.bin .shl) [.c (.int .u8 1), .v 19] <|
    .prim (.bin .xor) [.v 17, .v 20] <|
    .prim .idxv [.c (.int .i64 0), .v 6, .v 15] <|
    .prim .set [.v 8, .v 22, .v 21] <|
    .prim .sub [.v 23, .c (.int .i64 0), .v 6] <|
    .call 48 F_frame_Read [.v 24] 2 <|
    .subp [.bool] (
     .prim (.bin .neq) [.v 12, .c (.int .i64 0)] <|
     .ite (.v 27) (
      .jmp 0 false [.c (.bool true)]) (
      .prim .eqv [.v 11, .v 0] <|
      .prim (.un .not) [.v 28] <|
      .ite (.v 29) (
       .jmp 0 false [.c (.bool true)]) (
       .prim (.bin .neq) [.v 26, .c (.int .i64 5)] <|
       .ite (.v 30) (
        .jmp 0 false [.c (.bool true)]) (
        .primH .eqv tMsg [.v 25, .c (.agg [(.int .i64 0), (.int .i64 0), (.int .i64 0), (.int .i64 0), (.int .i64 0), (.int .i64 0), (.bool false), (.int .u32 0), (.int .u32 0)])] <|
        .prim (.un .not) [.v 31] <|
        .jmp 0 false [.v 32])))) 1 <|
    .ite (.v 27) (
     .jmp 1 false [.c (.bool false)]) (
     .jmp 0 false [])) (
    .jmp 0 false [])) 0 <|
  .prim .len [.v 3] <|
  .prim .min2 [.v 10, .c (.int .i64 1000)] <|
  .prim .len [.v 3] <|
  .prim .sub [.v 3, .c (.int .i64 0), .v 11] <|
  .call 48 F_frame_Read [.v 13] 2 <|
  .prim (.bin .neq) [.v 15, .c (.int .i64 0)] <|
  .ite (.v 16) (
   .primH .eqv tMsg [.v 14, .c (.agg [(.int .i64 0), (.int .i64 0), (.int .i64 0), (.int .i64 0), (.int .i64 0), (.int .i64 0), (.bool false), (.int .u32 0), (.int .u32 0)])] <|
   .jmp 0 false [.v 17]) (
   .sub0 [.int .i64, .int .i64, .sl (.int .u8)] (
    .call 50 F_frame_May [.v 14] 1 <|
    .prim (.un .not) [.v 17] <|
    .ite (.v 18) (
     .jmp 0 false [.c (.int .i64 0), .c (.int .i64 1), .c .nil]) (
     .sub0 [.int .i64, .sl (.int .u8)] (
      .prim (.fld 6) [.v 14] <|
      .subp [.int .u8] (
       .ite (.v 19) (
        .jmp 0 false [.c (.int .u8 1)]) (
        .jmp 0 false [.c (.int .u8 0)])) 1 <|
      .prim (.fld 0) [.v 14] <|
      .prim (.conv .u8) [.v 21] <|
      .prim (.fld 1) [.v 14] <|
      .prim (.conv .u8) [.v 23] <|
      .prim (.fld 2) [.v 14] <|
      .prim (.conv .u8) [.v 25] <|
      .prim (.fld 3) [.v 14] <|
      .prim (.conv .u8) [.v 27] <|
      .prim (.fld 4) [.v 14] <|
      .prim (.conv .u8) [.v 29] <|
      .prim (.fld 5) [.v 14] <|
      .prim (.conv .u8) [.v 31] <|
      .mkL (.int .u8) [.v 22, .v 24, .v 26, .v 28, .v 30, .v 32, .v 20] <|
      .prim (.fld 7) [.v 14] <|
      .call 97 F_word_Bytes [.v 34] 1 <|
      .prim (.fld 8) [.v 14] <|
      .call 97 F_word_Bytes [.v 36] 1 <|
      .mkL (.sl (.int .u8)) [.v 33, .v 35, .v 37] <|
      .sub0 [.int .i64, .sl (.int .u8)] (
       .prim .len [.v 38] <|
       .sub0 [.int .i64] (
        .loop [.int .i64, .int .i64] [.c (.int .i64 0), .c (.int .i64 0)] (
         .prim (.bin .lss) [.v 41, .v 39] <|
         .ite (.v 42) (
          .prim .idx [.v 38, .v 41] <|
          .prim .get [.v 38, .v 43] <|
          .prim .len [.v 44] <|
          .prim (.bin .add) [.v 40, .v 45] <|
          .prim (.bin .lss) [.v 46, .c (.int .i64 0)] <|
          .ite (.v 47) (
           .fail 153) (
           .prim (.bin .add) [.v 41, .c (.int .i64 1)] <|
           .jmp 0 true [.v 46, .v 48])) (
          .jmp 1 false [.v 40]))) 1 <|
       .sub0 [.int .i64, .sl (.int .u8)] (
        .prim (.bin .lss) [.v 40, .c (.int .i64 0)] <|
        .ite (.v 41) (
         .fail 153) (
         .prim (.bin .sub) [.v 40, .c (.int .i64 0)] <|
         .prim (.bin .gtr) [.v 42, .c (.int .i64 0)] <|
         .sub0 [.int .i64, .sl (.int .u8)] (
          .ite (.v 43) (
           .primH (.zext (.int .u8 0) 1) (.sl (.int .u8)) [.c .nil, .v 42] <|
           .prim .len [.v 44] <|
           .prim .rng [.v 44, .c (.int .i64 0), .c (.int .i64 0)] <|
           .jmp 0 false [.v 46, .v 44]) (
           .jmp 0 false [.c (.int .i64 0), .c .nil])) 2 <|
         .jmp 0 false [.v 44, .v 45])) 2 <|
       .prim .len [.v 38] <|
       .sub0 [.int .i64, .sl (.int .u8)] (
        .loop [.int .i64, .int .i64, .sl (.int .u8)] [.v 41, .c (.int .i64 0), .v 42] (
         .prim (.bin .lss) [.v 45, .v 43] <|
         .ite (.v 47) (
          .prim .idx [.v 38, .v 45] <|
          .prim .get [.v 38, .v 48] <|
          .prim (.appv 1) [.v 46, .v 44, .v 49] <|
          .prim .len [.v 49] <|
          .prim .vadd [.v 44, .v 51] <|
          .prim (.bin .add) [.v 45, .c (.int .i64 1)] <|
          .jmp 0 true [.v 52, .v 53, .v 50]) (
          .jmp 1 false [.v 44, .v 46]))) 2 <|
       .jmp 0 false [.v 44, .v 45]) 2 <|
      .prim .sub [.v 40, .c (.int .i64 0), .v 39] <|
      .call 52 F_frame_Sum [.v 41] 1 <|
      .call 97 F_word_Bytes [.v 42] 1 <|
      .prim (.appv 1) [.v 40, .v 39, .v 43] <|
      .prim .len [.v 43] <|
      .prim .vadd [.v 39, .v 45] <|
      .jmp 0 false [.v 46, .v 44]) 2 <|
     .jmp 0 false [.v 19, .c (.int .i64 0), .v 20])) 3 <|
   .sub0 [.bool] (
    .prim (.bin .eql) [.v 18, .c (.int .i64 0)] <|
    .ite (.v 20) (
     .prim .sub [.v 19, .c (.int .i64 0), .v 17] <|
     .prim .b2s [.v 21] <|
     .prim .b2s [.v 13] <|
     .prim (.bin .eql) [.v 22, .v 23] <|
     .jmp 0 false [.v 24]) (
     .jmp 0 false [.c (.bool false)])) 1 <|
   .jmp 0 false [.v 20]))
theorem a_l05_FrameTells : treeOf cx 12 10 = some A_l05_FrameTells.erase := by kernel_rfl
theorem k_l05_FrameTells : FnOk cx 12 noC 10 F_l05_FrameTells := fn_ok (t := A_l05_FrameTells) a_l05_FrameTells (fun _ => rfl) (ok_of [(45, F_l05_awake.fn), (50, F_frame_May), (97, F_word_Bytes), (97, F_word_Bytes), (52, F_frame_Sum), (97, F_word_Bytes), (48, F_frame_Read), (48, F_frame_Read), (48, F_frame_Read), (50, F_frame_May), (97, F_word_Bytes), (97, F_word_Bytes), (52, F_frame_Sum), (97, F_word_Bytes)] (by kernel_rfl) (.cons k_l05_awake (.cons k_frame_May (.cons k_word_Bytes (.cons k_word_Bytes (.cons k_frame_Sum (.cons k_word_Bytes (.cons k_frame_Read (.cons k_frame_Read (.cons k_frame_Read (.cons k_frame_May (.cons k_word_Bytes (.cons k_word_Bytes (.cons k_frame_Sum (.cons k_word_Bytes .nil))))))))))))))) (fun x => by kernel_rfl)

end Go.Proofs.Ytklkpogdghiagaa
