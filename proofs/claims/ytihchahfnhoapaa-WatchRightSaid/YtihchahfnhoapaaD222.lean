/- More functions of this cut as functions of plain typed data. Printed by a program of this claim's prover; each is checked here to be what the executor makes of the code. -/
import Derived.Test.YtihchahfnhoapaaD221
set_option linter.unusedVariables false
set_option maxRecDepth 100000
namespace Go.Proofs.Ytihchahfnhoapaa
open Go.SX
/-! 3: backstay/backstaylaw22.WatchRight -/
noncomputable def l22_WatchRight (p0 : Proto) (p1 : Int) : Option Bool :=
  if !l22_awake then
    some (false)
  else
    (r10_Short p0).bind fun v4 =>
    if !v4 then
      some (true)
    else
      (
        (watch_Alone p0 p1).bind fun v6 =>
        (r22_Alone p0 p1).bind fun v7 =>
        if decide (v6 = v7) then
          (watch_Alike p0 p1).bind fun v9 =>
          (r22_Alike p0 p1).bind fun v10 =>
          if decide (v9 = v10) then
            (watch_Known p0 p1).bind fun v12 =>
            (r22_Known p0 p1).bind fun v13 =>
            if decide (v12 = v13) then
              (watch_Calm p0).bind fun v15 =>
              (r22_Calm p0).bind fun v16 =>
              if decide (v15 = v16) then
                (watch_All p0).bind fun v18 =>
                (r22_All p0).bind fun v19 =>
                if decide (v18 = v19) then
                  (watch_Who p0 p1).bind fun v21 =>
                  (r22_Who p0 p1).bind fun v22 =>
                  (r09_Ints v21 v22).bind fun v23 =>
                  some (v23)
                else
                  some (false)
              else
                some (false)
            else
              some (false)
          else
            some (false)
        else
          some (false) : Option Bool).bind fun v6 =>
      some (v6)
noncomputable def F_l22_WatchRight : FnT := ⟨[tProto, .int .i64], [.bool], fun x => l22_WatchRight x.1 x.2⟩
noncomputable def A_l22_WatchRight : TA :=
 .callp 13 F_l22_awake [] 1 <|
 .prim (.un .not) [.v 2] <|
 .ite (.v 3) (
  .jmp 0 false [.c (.bool false)]) (
  .call 14 F_r10_Short [.v 0] 1 <|
  .prim (.un .not) [.v 4] <|
  .ite (.v 5) (
   .jmp 0 false [.c (.bool true)]) (
   .sub0 [.bool] (
    .call 15 F_watch_Alone [.v 0, .v 1] 1 <|
    .call 16 F_r22_Alone [.v 0, .v 1] 1 <|
    .prim (.bin .eql) [.v 6, .v 7] <|
    .ite (.v 8) (
     .call 17 F_watch_Alike [.v 0, .v 1] 1 <|
     .call 18 F_r22_Alike [.v 0, .v 1] 1 <|
     .prim (.bin .eql) [.v 9, .v 10] <|
     .ite (.v 11) (
      .call 19 F_watch_Known [.v 0, .v 1] 1 <|
      .call 20 F_r22_Known [.v 0, .v 1] 1 <|
      .prim (.bin .eql) [.v 12, .v 13] <|
      .ite (.v 14) (
       .call 21 F_watch_Calm [.v 0] 1 <|
       .call 22 F_r22_Calm [.v 0] 1 <|
       .prim (.bin .eql) [.v 15, .v 16] <|
       .ite (.v 17) (
        .call 23 F_watch_All [.v 0] 1 <|
        .call 24 F_r22_All [.v 0] 1 <|
        .prim (.bin .eql) [.v 18, .v 19] <|
        .ite (.v 20) (
         .call 26 F_watch_Who [.v 0, .v 1] 1 <|
         .call 27 F_r22_Who [.v 0, .v 1] 1 <|
         .call 25 F_r09_Ints [.v 21, .v 22] 1 <|
         .jmp 0 false [.v 23]) (
         .jmp 0 false [.c (.bool false)])) (
        .jmp 0 false [.c (.bool false)])) (
       .jmp 0 false [.c (.bool false)])) (
      .jmp 0 false [.c (.bool false)])) (
     .jmp 0 false [.c (.bool false)])) 1 <|
   .jmp 0 false [.v 6]))
theorem a_l22_WatchRight : treeOf cx 12 3 = some A_l22_WatchRight.erase := by kernel_rfl
theorem k_l22_WatchRight : FnOk cx 12 noC 3 F_l22_WatchRight := fn_ok (t := A_l22_WatchRight) a_l22_WatchRight (fun _ => rfl) (ok_of [(13, F_l22_awake.fn), (14, F_r10_Short), (15, F_watch_Alone), (16, F_r22_Alone), (17, F_watch_Alike), (18, F_r22_Alike), (19, F_watch_Known), (20, F_r22_Known), (21, F_watch_Calm), (22, F_r22_Calm), (23, F_watch_All), (24, F_r22_All), (26, F_watch_Who), (27, F_r22_Who), (25, F_r09_Ints)] (by kernel_rfl) (.cons k_l22_awake (.cons k_r10_Short (.cons k_watch_Alone (.cons k_r22_Alone (.cons k_watch_Alike (.cons k_r22_Alike (.cons k_watch_Known (.cons k_r22_Known (.cons k_watch_Calm (.cons k_r22_Calm (.cons k_watch_All (.cons k_r22_All (.cons k_watch_Who (.cons k_r22_Who (.cons k_r09_Ints .nil)))))))))))))))) (fun x => by kernel_rfl)

end Go.Proofs.Ytihchahfnhoapaa
