/- More functions of this cut as functions of plain typed data. Printed by a program of this claim's prover; each is checked here to be what the executor makes of the code. -/
import Derived.Test.YtklkpogdghiagaaD112
set_option linter.unusedVariables false
set_option maxRecDepth 100000
namespace Go.Proofs.Ytklkpogdghiagaa
open Go.SX
/-! 12: backstay/backstaylaw11.UndoRight -/
noncomputable def l11_UndoRight (p0 : Log) (p1 : Int) (p2 : Int) (p3 : Int) (p4 : Int) : Option Bool :=
  if !l11_awake then
    some (false)
  else
    if (decide ((80 : Int) < (List.length (Log.Mem p0) : Int))) || (decide ((300 : Int) < (List.length (Log.Lst p0) : Int))) then
      some (true)
    else
      (appO 4 ([] : List Int) (Log.Mem p0)).bind fun v9 =>
      (appO 24 ([] : List Undo) (Log.Lst p0)).bind fun v12 =>
      (undo_Write (Log.mk v9 (Log.Span p0) v12) p1 p2).bind fun v14 =>
      (r11_Write p0 p1 p2).bind fun v16 =>
      (
        (r11_Same v14.1 v16.1).bind fun v18 =>
        if !v18 then
          some (true)
        else
          some ((!decide (v14.2 = v16.2))) : Option Bool).bind fun v18 =>
      if v18 then
        some (false)
      else
        (undo_Back (Log.mk v9 (Log.Span p0) v12) p3).bind fun v20 =>
        (r11_Back p0 p3).bind fun v22 =>
        (
          (r11_Same v20.1 v22.1).bind fun v24 =>
          if !v24 then
            some (true)
          else
            some ((!decide (v20.2 = v22.2))) : Option Bool).bind fun v24 =>
        if v24 then
          some (false)
        else
          (undo_Trim (Log.mk v9 (Log.Span p0) v12) p3).bind fun v26 =>
          (r11_Trim p0 p3).bind fun v28 =>
          (
            (r11_Same v26.1 v28.1).bind fun v30 =>
            if !v30 then
              some (true)
            else
              some ((!decide (v26.2 = v28.2))) : Option Bool).bind fun v30 =>
          if v30 then
            some (false)
          else
            (undo_New p4).bind fun v31 =>
            (r11_New p4).bind fun v33 =>
            (
              (r11_Same v31.1 v33.1).bind fun v35 =>
              if !v35 then
                some (true)
              else
                some ((!decide (v31.2 = v33.2))) : Option Bool).bind fun v35 =>
            if v35 then
              some (false)
            else
              (r11_Right p0).bind fun v36 =>
              (undo_Next (Log.mk v9 (Log.Span p0) v12)).bind fun v38 =>
              let v40 : Int := bif v36 then w64 ((256 : Int) - (List.length (Log.Lst p0) : Int)) else (0 : Int)
              (
                (r11_Same v38.1 (bif v36 && (decide ((Log.Span p0) < (1099511627776 : Int))) then Log.setSpan p0 (w64 ((Log.Span p0) + (1 : Int))) else p0)).bind fun v43 =>
                if v43 then
                  let v44 : Bool := decide (v38.2 = (0 : Int))
                  if v36 then
                    if decide (v44 = (decide ((Log.Span p0) < (1099511627776 : Int)))) then
                      if decide (v38.2 = (0 : Int)) then
                        (undo_Right (Log.mk v9 (Log.Span p0) v12)).bind fun v50 =>
                        if decide (v50 = v36) then
                          (undo_Room (Log.mk v9 (Log.Span p0) v12)).bind fun v53 =>
                          if decide (v53 = v40) then
                            (r11_Same (Log.mk v9 (Log.Span p0) v12) p0).bind fun v56 =>
                            some (v56)
                          else
                            some (false)
                        else
                          some (false)
                      else
                        if decide (v38.2 = (1 : Int)) then
                          (undo_Right (Log.mk v9 (Log.Span p0) v12)).bind fun v51 =>
                          if decide (v51 = v36) then
                            (undo_Room (Log.mk v9 (Log.Span p0) v12)).bind fun v54 =>
                            if decide (v54 = v40) then
                              (r11_Same (Log.mk v9 (Log.Span p0) v12) p0).bind fun v57 =>
                              some (v57)
                            else
                              some (false)
                          else
                            some (false)
                        else
                          some (false)
                    else
                      some (false)
                  else
                    if decide (v44 = false) then
                      if decide (v38.2 = (0 : Int)) then
                        (undo_Right (Log.mk v9 (Log.Span p0) v12)).bind fun v48 =>
                        if decide (v48 = v36) then
                          (undo_Room (Log.mk v9 (Log.Span p0) v12)).bind fun v51 =>
                          if decide (v51 = v40) then
                            (r11_Same (Log.mk v9 (Log.Span p0) v12) p0).bind fun v54 =>
                            some (v54)
                          else
                            some (false)
                        else
                          some (false)
                      else
                        if decide (v38.2 = (1 : Int)) then
                          (undo_Right (Log.mk v9 (Log.Span p0) v12)).bind fun v49 =>
                          if decide (v49 = v36) then
                            (undo_Room (Log.mk v9 (Log.Span p0) v12)).bind fun v52 =>
                            if decide (v52 = v40) then
                              (r11_Same (Log.mk v9 (Log.Span p0) v12) p0).bind fun v55 =>
                              some (v55)
                            else
                              some (false)
                          else
                            some (false)
                        else
                          some (false)
                    else
                      some (false)
                else
                  some (false) : Option Bool).bind fun v43 =>
              some (v43)
noncomputable def F_l11_UndoRight : FnT := ⟨[tLog, .int .i64, .int .u32, .int .i64, .int .i64], [.bool], fun x => l11_UndoRight x.1 x.2.1 x.2.2.1 x.2.2.2.1 x.2.2.2.2⟩
noncomputable def A_l11_UndoRight : TA :=
 .callp 39 F_l11_awake [] 1 <|
 .prim (.un .not) [.v 5] <|
 .ite (.v 6) (
  .jmp 0 false [.c (.bool false)]) (
  .subp [.bool] (
   .prim (.fld 0) [.v 0] <|
   .prim .len [.v 7] <|
   .prim (.bin .gtr) [.v 8, .c (.int .i64 80)] <|
   .ite (.v 9) (
    .jmp 0 false [.c (.bool true)]) (
    .prim (.fld 2) [.v 0] <|
    .prim .len [.v 10] <|
    .prim (.bin .gtr) [.v 11, .c (.int .i64 300)] <|
    .jmp 0 false [.v 12])) 1 <|
  .ite (.v 7) (
   .jmp 0 false [.c (.bool true)]) (
   .prim (.fld 0) [.v 0] <|
   .primH (.app 4) (.sl (.int .u32)) [.c (.sl []), .v 8] <|
   .prim (.fld 1) [.v 0] <|
   .prim (.fld 2) [.v 0] <|
   .primH (.app 24) (.sl tUndo) [.c (.sl []), .v 11] <|
   .mkS tsLog [.v 9, .v 10, .v 12] <|
   .call 42 F_undo_Write [.v 13, .v 1, .v 2] 2 <|
   .call 54 F_r11_Write [.v 0, .v 1, .v 2] 2 <|
   .sub0 [.bool] (
    .call 44 F_r11_Same [.v 14, .v 16] 1 <|
    .prim (.un .not) [.v 18] <|
    .ite (.v 19) (
     .jmp 0 false [.c (.bool true)]) (
     .prim (.bin .neq) [.v 15, .v 17] <|
     .jmp 0 false [.v 20])) 1 <|
   .ite (.v 18) (
    .jmp 0 false [.c (.bool false)]) (
    .mkS tsLog [.v 9, .v 10, .v 12] <|
    .call 43 F_undo_Back [.v 19, .v 3] 2 <|
    .call 55 F_r11_Back [.v 0, .v 3] 2 <|
    .sub0 [.bool] (
     .call 44 F_r11_Same [.v 20, .v 22] 1 <|
     .prim (.un .not) [.v 24] <|
     .ite (.v 25) (
      .jmp 0 false [.c (.bool true)]) (
      .prim (.bin .neq) [.v 21, .v 23] <|
      .jmp 0 false [.v 26])) 1 <|
    .ite (.v 24) (
     .jmp 0 false [.c (.bool false)]) (
     .mkS tsLog [.v 9, .v 10, .v 12] <|
     .call 56 F_undo_Trim [.v 25, .v 3] 2 <|
     .call 57 F_r11_Trim [.v 0, .v 3] 2 <|
     .sub0 [.bool] (
      .call 44 F_r11_Same [.v 26, .v 28] 1 <|
      .prim (.un .not) [.v 30] <|
      .ite (.v 31) (
       .jmp 0 false [.c (.bool true)]) (
       .prim (.bin .neq) [.v 27, .v 29] <|
       .jmp 0 false [.v 32])) 1 <|
     .ite (.v 30) (
      .jmp 0 false [.c (.bool false)]) (
      .call 58 F_undo_New [.v 4] 2 <|
      .call 59 F_r11_New [.v 4] 2 <|
      .sub0 [.bool] (
       .call 44 F_r11_Same [.v 31, .v 33] 1 <|
       .prim (.un .not) [.v 35] <|
       .ite (.v 36) (
        .jmp 0 false [.c (.bool true)]) (
        .prim (.bin .neq) [.v 32, .v 34] <|
        .jmp 0 false [.v 37])) 1 <|
      .ite (.v 35) (
       .jmp 0 false [.c (.bool false)]) (
       .call 60 F_r11_Right [.v 0] 1 <|
       .mkS tsLog [.v 9, .v 10, .v 12] <|
       .call 40 F_undo_Next [.v 37] 2 <|
       .subp [.int .i64] (
        .ite (.v 36) (
         .prim (.fld 2) [.v 0] <|
         .prim .len [.v 40] <|
         .prim (.bin .sub) [.c (.int .i64 256), .v 41] <|
         .jmp 0 false [.v 42]) (
         .jmp 0 false [.c (.int .i64 0)])) 1 <|
       .subp [.bool] (
        .ite (.v 36) (
         .prim (.fld 1) [.v 0] <|
         .prim (.bin .lss) [.v 41, .c (.int .i64 1099511627776)] <|
         .jmp 0 false [.v 42]) (
         .jmp 0 false [.c (.bool false)])) 1 <|
       .subp [tLog] (
        .ite (.v 41) (
         .prim (.fld 1) [.v 0] <|
         .prim (.bin .add) [.v 42, .c (.int .i64 1)] <|
         .prim (.setf 1) [.v 0, .v 43] <|
         .jmp 0 false [.v 44]) (
         .jmp 0 false [.v 0])) 1 <|
       .sub0 [.bool] (
        .call 44 F_r11_Same [.v 38, .v 42] 1 <|
        .ite (.v 43) (
         .prim (.bin .eql) [.v 39, .c (.int .i64 0)] <|
         .ite (.v 36) (
          .prim (.fld 1) [.v 0] <|
          .prim (.bin .lss) [.v 45, .c (.int .i64 1099511627776)] <|
          .prim (.bin .eql) [.v 44, .v 46] <|
          .ite (.v 47) (
           .prim (.bin .eql) [.v 39, .c (.int .i64 0)] <|
           .ite (.v 48) (
            .mkS tsLog [.v 9, .v 10, .v 12] <|
            .call 61 F_undo_Right [.v 49] 1 <|
            .prim (.bin .eql) [.v 50, .v 36] <|
            .ite (.v 51) (
             .mkS tsLog [.v 9, .v 10, .v 12] <|
             .call 41 F_undo_Room [.v 52] 1 <|
             .prim (.bin .eql) [.v 53, .v 40] <|
             .ite (.v 54) (
              .mkS tsLog [.v 9, .v 10, .v 12] <|
              .call 44 F_r11_Same [.v 55, .v 0] 1 <|
              .jmp 0 false [.v 56]) (
              .jmp 0 false [.c (.bool false)])) (
             .jmp 0 false [.c (.bool false)])) (
            .prim (.bin .eql) [.v 39, .c (.int .i64 1)] <|
            .ite (.v 49) (
             .mkS tsLog [.v 9, .v 10, .v 12] <|
             .call 61 F_undo_Right [.v 50] 1 <|
             .prim (.bin .eql) [.v 51, .v 36] <|
             .ite (.v 52) (
              .mkS tsLog [.v 9, .v 10, .v 12] <|
              .call 41 F_undo_Room [.v 53] 1 <|
              .prim (.bin .eql) [.v 54, .v 40] <|
              .ite (.v 55) (
               .mkS tsLog [.v 9, .v 10, .v 12] <|
               .call 44 F_r11_Same [.v 56, .v 0] 1 <|
               .jmp 0 false [.v 57]) (
               .jmp 0 false [.c (.bool false)])) (
              .jmp 0 false [.c (.bool false)])) (
             .jmp 0 false [.c (.bool false)]))) (
           .jmp 0 false [.c (.bool false)])) (
          .prim (.bin .eql) [.v 44, .c (.bool false)] <|
          .ite (.v 45) (
           .prim (.bin .eql) [.v 39, .c (.int .i64 0)] <|
           .ite (.v 46) (
            .mkS tsLog [.v 9, .v 10, .v 12] <|
            .call 61 F_undo_Right [.v 47] 1 <|
            .prim (.bin .eql) [.v 48, .v 36] <|
            .ite (.v 49) (
             .mkS tsLog [.v 9, .v 10, .v 12] <|
             .call 41 F_undo_Room [.v 50] 1 <|
             .prim (.bin .eql) [.v 51, .v 40] <|
             .ite (.v 52) (
              .mkS tsLog [.v 9, .v 10, .v 12] <|
              .call 44 F_r11_Same [.v 53, .v 0] 1 <|
              .jmp 0 false [.v 54]) (
              .jmp 0 false [.c (.bool false)])) (
             .jmp 0 false [.c (.bool false)])) (
            .prim (.bin .eql) [.v 39, .c (.int .i64 1)] <|
            .ite (.v 47) (
             .mkS tsLog [.v 9, .v 10, .v 12] <|
             .call 61 F_undo_Right [.v 48] 1 <|
             .prim (.bin .eql) [.v 49, .v 36] <|
             .ite (.v 50) (
              .mkS tsLog [.v 9, .v 10, .v 12] <|
              .call 41 F_undo_Room [.v 51] 1 <|
              .prim (.bin .eql) [.v 52, .v 40] <|
              .ite (.v 53) (
               .mkS tsLog [.v 9, .v 10, .v 12] <|
               .call 44 F_r11_Same [.v 54, .v 0] 1 <|
               .jmp 0 false [.v 55]) (
               .jmp 0 false [.c (.bool false)])) (
              .jmp 0 false [.c (.bool false)])) (
             .jmp 0 false [.c (.bool false)]))) (
           .jmp 0 false [.c (.bool false)]))) (
         .jmp 0 false [.c (.bool false)])) 1 <|
       .jmp 0 false [.v 43]))))))
theorem a_l11_UndoRight : treeOf cx 12 12 = some A_l11_UndoRight.erase := by kernel_rfl
theorem k_l11_UndoRight : FnOk cx 12 noC 12 F_l11_UndoRight := fn_ok (t := A_l11_UndoRight) a_l11_UndoRight (fun _ => rfl) (ok_of [(39, F_l11_awake.fn), (42, F_undo_Write), (54, F_r11_Write), (44, F_r11_Same), (43, F_undo_Back), (55, F_r11_Back), (44, F_r11_Same), (56, F_undo_Trim), (57, F_r11_Trim), (44, F_r11_Same), (58, F_undo_New), (59, F_r11_New), (44, F_r11_Same), (60, F_r11_Right), (40, F_undo_Next), (44, F_r11_Same), (61, F_undo_Right), (41, F_undo_Room), (44, F_r11_Same), (61, F_undo_Right), (41, F_undo_Room), (44, F_r11_Same), (61, F_undo_Right), (41, F_undo_Room), (44, F_r11_Same), (61, F_undo_Right), (41, F_undo_Room), (44, F_r11_Same)] (by kernel_rfl) (.cons k_l11_awake (.cons k_undo_Write (.cons k_r11_Write (.cons k_r11_Same (.cons k_undo_Back (.cons k_r11_Back (.cons k_r11_Same (.cons k_undo_Trim (.cons k_r11_Trim (.cons k_r11_Same (.cons k_undo_New (.cons k_r11_New (.cons k_r11_Same (.cons k_r11_Right (.cons k_undo_Next (.cons k_r11_Same (.cons k_undo_Right (.cons k_undo_Room (.cons k_r11_Same (.cons k_undo_Right (.cons k_undo_Room (.cons k_r11_Same (.cons k_undo_Right (.cons k_undo_Room (.cons k_r11_Same (.cons k_undo_Right (.cons k_undo_Room (.cons k_r11_Same .nil))))))))))))))))))))))))))))) (fun x => by kernel_rfl)

end Go.Proofs.Ytklkpogdghiagaa
