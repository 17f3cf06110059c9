/- More functions of this cut as functions of plain typed data. Printed by a program of this claim's prover; each is checked here to be what the executor makes of the code. -/
import Derived.Test.YtklkpogdghiagaaD09n2
set_option linter.unusedVariables false
set_option maxRecDepth 100000
namespace Go.Proofs.Ytklkpogdghiagaa
open Go.SX
/-! 5: backstay/backstaylaw09.DirecRight -/
noncomputable def l09_DirecRight (p0 : Entry) (p1 : Int) (p2 : Int) : Option Bool :=
  if !l09_awake then
    some (false)
  else
    if decide ((20 : Int) < (List.length (Entry.Share p0) : Int)) then
      some (true)
    else
      (appO 1 ([] : List Bool) (Entry.Share p0)).bind fun v10 =>
      (direc_Read (Entry.mk (Entry.Owner p0) v10) p1).bind fun v12 =>
      (r09_Read p0 p1).bind fun v15 =>
      (
        (r09_Same v12.1 v15.1).bind fun v18 =>
        if !v18 then
          some (true)
        else
          if !decide (v12.2.1 = v15.2.1) then
            some (true)
          else
            some ((!decide (v12.2.2 = v15.2.2))) : Option Bool).bind fun v18 =>
      if v18 then
        some (false)
      else
        (direc_Write (Entry.mk (Entry.Owner p0) v10) p1).bind fun v20 =>
        (r09_Write p0 p1).bind fun v24 =>
        (
          (r09_Same v20.1 v24.1).bind fun v28 =>
          if !v28 then
            some (true)
          else
            if !decide (v20.2.1 = v24.2.1) then
              some (true)
            else
              (r09_Ints v20.2.2.1 v24.2.2.1).bind fun v31 =>
              if !v31 then
                some (true)
              else
                some ((!decide (v20.2.2.2 = v24.2.2.2))) : Option Bool).bind fun v28 =>
        if v28 then
          some (false)
        else
          (direc_Back (Entry.mk (Entry.Owner p0) v10) p1).bind fun v30 =>
          (r09_Back p0 p1).bind fun v32 =>
          (direc_New p2).bind fun v34 =>
          (r09_New p2).bind fun v36 =>
          (
            (r09_May p0 (List.length (Entry.Share p0) : Int)).bind fun v40 =>
            if v40 then
              if decide ((0 : Int) < (Entry.Owner p0)) then
                (r09_Others p0 (-1 : Int)).bind fun v43 =>
                some ((decide ((List.length v43 : Int) = (0 : Int))))
              else
                some (false)
            else
              some (false) : Option Bool).bind fun v38 =>
          (
            (r09_Same v30.1 v32.1).bind fun v39 =>
            if v39 then
              if decide (v30.2 = v32.2) then
                (r09_Same v34.1 v36.1).bind fun v41 =>
                if v41 then
                  if decide (v34.2 = v36.2) then
                    (direc_May (Entry.mk (Entry.Owner p0) v10) p2).bind fun v44 =>
                    (r09_May p0 p2).bind fun v45 =>
                    if decide (v44 = v45) then
                      (direc_Alone (Entry.mk (Entry.Owner p0) v10)).bind fun v48 =>
                      if decide (v48 = v38) then
                        (r09_Same (Entry.mk (Entry.Owner p0) v10) p0).bind fun v51 =>
                        some (v51)
                      else
                        some (false)
                    else
                      some (false)
                  else
                    some (false)
                else
                  some (false)
              else
                some (false)
            else
              some (false) : Option Bool).bind fun v39 =>
          some (v39)
noncomputable def F_l09_DirecRight : FnT := ⟨[tEntry, .int .i64, .int .i64], [.bool], fun x => l09_DirecRight x.1 x.2.1 x.2.2⟩
noncomputable def A_l09_DirecRight : TA :=
 .callp 14 F_l09_awake [] 1 <|
 .prim (.un .not) [.v 3] <|
 .ite (.v 4) (
  .jmp 0 false [.c (.bool false)]) (
  .prim (.fld 1) [.v 0] <|
  .prim .len [.v 5] <|
  .prim (.bin .gtr) [.v 6, .c (.int .i64 20)] <|
  .ite (.v 7) (
   .jmp 0 false [.c (.bool true)]) (
   .prim (.fld 0) [.v 0] <|
   .prim (.fld 1) [.v 0] <|
   .primH (.app 1) (.sl .bool) [.c (.sl []), .v 9] <|
   .mkS tsEntry [.v 8, .v 10] <|
   .call 16 F_direc_Read [.v 11, .v 1] 3 <|
   .call 25 F_r09_Read [.v 0, .v 1] 3 <|
   .sub0 [.bool] (
    .call 26 F_r09_Same [.v 12, .v 15] 1 <|
    .prim (.un .not) [.v 18] <|
    .ite (.v 19) (
     .jmp 0 false [.c (.bool true)]) (
     .prim (.bin .neq) [.v 13, .v 16] <|
     .ite (.v 20) (
      .jmp 0 false [.c (.bool true)]) (
      .prim (.bin .neq) [.v 14, .v 17] <|
      .jmp 0 false [.v 21]))) 1 <|
   .ite (.v 18) (
    .jmp 0 false [.c (.bool false)]) (
    .mkS tsEntry [.v 8, .v 10] <|
    .call 17 F_direc_Write [.v 19, .v 1] 4 <|
    .call 27 F_r09_Write [.v 0, .v 1] 4 <|
    .sub0 [.bool] (
     .call 26 F_r09_Same [.v 20, .v 24] 1 <|
     .prim (.un .not) [.v 28] <|
     .ite (.v 29) (
      .jmp 0 false [.c (.bool true)]) (
      .prim (.bin .neq) [.v 21, .v 25] <|
      .ite (.v 30) (
       .jmp 0 false [.c (.bool true)]) (
       .call 28 F_r09_Ints [.v 22, .v 26] 1 <|
       .prim (.un .not) [.v 31] <|
       .ite (.v 32) (
        .jmp 0 false [.c (.bool true)]) (
        .prim (.bin .neq) [.v 23, .v 27] <|
        .jmp 0 false [.v 33])))) 1 <|
    .ite (.v 28) (
     .jmp 0 false [.c (.bool false)]) (
     .mkS tsEntry [.v 8, .v 10] <|
     .call 29 F_direc_Back [.v 29, .v 1] 2 <|
     .call 30 F_r09_Back [.v 0, .v 1] 2 <|
     .call 15 F_direc_New [.v 2] 2 <|
     .call 31 F_r09_New [.v 2] 2 <|
     .sub0 [.bool] (
      .prim (.fld 1) [.v 0] <|
      .prim .len [.v 38] <|
      .call 32 F_r09_May [.v 0, .v 39] 1 <|
      .ite (.v 40) (
       .prim (.fld 0) [.v 0] <|
       .prim (.bin .gtr) [.v 41, .c (.int .i64 0)] <|
       .ite (.v 42) (
        .call 33 F_r09_Others [.v 0, .c (.int .i64 (-1))] 1 <|
        .prim .len [.v 43] <|
        .prim (.bin .eql) [.v 44, .c (.int .i64 0)] <|
        .jmp 0 false [.v 45]) (
        .jmp 0 false [.c (.bool false)])) (
       .jmp 0 false [.c (.bool false)])) 1 <|
     .sub0 [.bool] (
      .call 26 F_r09_Same [.v 30, .v 32] 1 <|
      .ite (.v 39) (
       .prim (.bin .eql) [.v 31, .v 33] <|
       .ite (.v 40) (
        .call 26 F_r09_Same [.v 34, .v 36] 1 <|
        .ite (.v 41) (
         .prim (.bin .eql) [.v 35, .v 37] <|
         .ite (.v 42) (
          .mkS tsEntry [.v 8, .v 10] <|
          .call 34 F_direc_May [.v 43, .v 2] 1 <|
          .call 32 F_r09_May [.v 0, .v 2] 1 <|
          .prim (.bin .eql) [.v 44, .v 45] <|
          .ite (.v 46) (
           .mkS tsEntry [.v 8, .v 10] <|
           .call 18 F_direc_Alone [.v 47] 1 <|
           .prim (.bin .eql) [.v 48, .v 38] <|
           .ite (.v 49) (
            .mkS tsEntry [.v 8, .v 10] <|
            .call 26 F_r09_Same [.v 50, .v 0] 1 <|
            .jmp 0 false [.v 51]) (
            .jmp 0 false [.c (.bool false)])) (
           .jmp 0 false [.c (.bool false)])) (
          .jmp 0 false [.c (.bool false)])) (
         .jmp 0 false [.c (.bool false)])) (
        .jmp 0 false [.c (.bool false)])) (
       .jmp 0 false [.c (.bool false)])) 1 <|
     .jmp 0 false [.v 39]))))
theorem a_l09_DirecRight : treeOf cx 12 5 = some A_l09_DirecRight.erase := by kernel_rfl
theorem k_l09_DirecRight : FnOk cx 12 noC 5 F_l09_DirecRight := fn_ok (t := A_l09_DirecRight) a_l09_DirecRight (fun _ => rfl) (ok_of [(14, F_l09_awake.fn), (16, F_direc_Read), (25, F_r09_Read), (26, F_r09_Same), (17, F_direc_Write), (27, F_r09_Write), (26, F_r09_Same), (28, F_r09_Ints), (29, F_direc_Back), (30, F_r09_Back), (15, F_direc_New), (31, F_r09_New), (32, F_r09_May), (33, F_r09_Others), (26, F_r09_Same), (26, F_r09_Same), (34, F_direc_May), (32, F_r09_May), (18, F_direc_Alone), (26, F_r09_Same)] (by kernel_rfl) (.cons k_l09_awake (.cons k_direc_Read (.cons k_r09_Read (.cons k_r09_Same (.cons k_direc_Write (.cons k_r09_Write (.cons k_r09_Same (.cons k_r09_Ints (.cons k_direc_Back (.cons k_r09_Back (.cons k_direc_New (.cons k_r09_New (.cons k_r09_May (.cons k_r09_Others (.cons k_r09_Same (.cons k_r09_Same (.cons k_direc_May (.cons k_r09_May (.cons k_direc_Alone (.cons k_r09_Same .nil))))))))))))))))))))) (fun x => by kernel_rfl)

end Go.Proofs.Ytklkpogdghiagaa
