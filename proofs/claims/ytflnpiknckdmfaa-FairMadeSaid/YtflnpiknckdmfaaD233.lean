/- More functions of this cut as functions of plain typed data. Printed by a program of this claim's prover; each is checked here to be what the executor makes of the code. -/
import Derived.Test.YtflnpiknckdmfaaD232
set_option linter.unusedVariables false
set_option maxRecDepth 100000
namespace Go.Proofs.Ytflnpiknckdmfaa
open Go.SX
/-! 4: backstay/backstaylaw23.FairMade -/
noncomputable def l23_FairMade (p0 : List Event) (p1 : Int) (p2 : Int) (p3 : Int) (p4 : Int) (p5 : Int) (p6 : Int) : Option Bool :=
  if !l23_awake then
    some (false)
  else
    if decide ((120 : Int) < (List.length p0 : Int)) then
      some (true)
    else
      (remO p1 (4 : Int)).bind fun v11 =>
      let v13 : Int := w64 ((w64 v11) + (1 : Int))
      (remO p2 (20 : Int)).bind fun v14 =>
      let v16 : Int := w64 ((w64 v14) + (2 : Int))
      (remO p3 (9 : Int)).bind fun v17 =>
      let v19 : Int := w64 ((w64 v17) + (1 : Int))
      (fair_Turns v13 v16 v19).bind fun v20 =>
      let v22 : Int := w64 ((w64 (v13 + v19)) + (2 : Int))
      (
        if !decide ((List.length v20 : Int) = (w64 (v16 * v22))) then
          some (true)
        else
          (fair_Is v20 v13 v22).bind fun v26 =>
          if !v26 then
            some (true)
          else
            (fair_Least v20 v13).bind fun v28 =>
            some ((!decide (v28 = v22))) : Option Bool).bind fun v23 =>
      if v23 then
        some (false)
      else
        (remO p6 (40 : Int)).bind fun v24 =>
        let v26 : Int := w64 ((w64 v24) + (1 : Int))
        (fair_Is p0 v13 v26).bind fun v27 =>
        if !v27 then
          (fair_Least p0 v13).bind fun v29 =>
          some ((decide (v26 < v29)))
        else
          (remO (w64 p4) (w64 ((List.length p0 : Int) + (1 : Int)))).bind fun v32 =>
          (remO (w64 p5) (w64 ((List.length p0 : Int) + (1 : Int)))).bind fun v36 =>
          (
            (fair_Is p0 v13 (w64 (v26 + (1 : Int)))).bind fun v38 =>
            if v38 then
              (subO p0 (minT v32 v36) (maxT v32 v36)).bind fun v42 =>
              (fair_Is v42 v13 v26).bind fun v43 =>
              if v43 then
                if decide ((List.length p0 : Int) < v26) then
                  some (true)
                else
                  (fair_Least p0 v13).bind fun v46 =>
                  some ((decide (v46 ≤ v26)))
              else
                some (false)
            else
              some (false) : Option Bool).bind fun v37 =>
          some (v37)
noncomputable def F_l23_FairMade : FnT := ⟨[.sl tEvent, .int .u8, .int .u8, .int .u8, .int .u8, .int .u8, .int .u8], [.bool], fun x => l23_FairMade x.1 x.2.1 x.2.2.1 x.2.2.2.1 x.2.2.2.2.1 x.2.2.2.2.2.1 x.2.2.2.2.2.2⟩
noncomputable def A_l23_FairMade : TA :=
 .callp 14 F_l23_awake [] 1 <|
 .prim (.un .not) [.v 7] <|
 .ite (.v 8) (
  .jmp 0 false [.c (.bool false)]) (
  .prim .len [.v 0] <|
  .prim (.bin .gtr) [.v 9, .c (.int .i64 120)] <|
  .ite (.v 10) (
   .jmp 0 false [.c (.bool true)]) (
   .prim (.bin .rem) [.v 1, .c (.int .u8 4)] <|
   .prim (.conv .i64) [.v 11] <|
   .prim (.bin .add) [.v 12, .c (.int .i64 1)] <|
   .prim (.bin .rem) [.v 2, .c (.int .u8 20)] <|
   .prim (.conv .i64) [.v 14] <|
   .prim (.bin .add) [.v 15, .c (.int .i64 2)] <|
   .prim (.bin .rem) [.v 3, .c (.int .u8 9)] <|
   .prim (.conv .i64) [.v 17] <|
   .prim (.bin .add) [.v 18, .c (.int .i64 1)] <|
   .call 23 F_fair_Turns [.v 13, .v 16, .v 19] 1 <|
   .prim (.bin .add) [.v 13, .v 19] <|
   .prim (.bin .add) [.v 21, .c (.int .i64 2)] <|
   .sub0 [.bool] (
    .prim .len [.v 20] <|
    .prim (.bin .mul) [.v 16, .v 22] <|
    .prim (.bin .neq) [.v 23, .v 24] <|
    .ite (.v 25) (
     .jmp 0 false [.c (.bool true)]) (
     .call 16 F_fair_Is [.v 20, .v 13, .v 22] 1 <|
     .prim (.un .not) [.v 26] <|
     .ite (.v 27) (
      .jmp 0 false [.c (.bool true)]) (
      .call 20 F_fair_Least [.v 20, .v 13] 1 <|
      .prim (.bin .neq) [.v 28, .v 22] <|
      .jmp 0 false [.v 29]))) 1 <|
   .ite (.v 23) (
    .jmp 0 false [.c (.bool false)]) (
    .prim (.bin .rem) [.v 6, .c (.int .u8 40)] <|
    .prim (.conv .i64) [.v 24] <|
    .prim (.bin .add) [.v 25, .c (.int .i64 1)] <|
    .call 16 F_fair_Is [.v 0, .v 13, .v 26] 1 <|
    .prim (.un .not) [.v 27] <|
    .ite (.v 28) (
     .call 20 F_fair_Least [.v 0, .v 13] 1 <|
     .prim (.bin .gtr) [.v 29, .v 26] <|
     .jmp 0 false [.v 30]) (
     .prim (.conv .i64) [.v 4] <|
     .prim .len [.v 0] <|
     .prim (.bin .add) [.v 30, .c (.int .i64 1)] <|
     .prim (.bin .rem) [.v 29, .v 31] <|
     .prim (.conv .i64) [.v 5] <|
     .prim .len [.v 0] <|
     .prim (.bin .add) [.v 34, .c (.int .i64 1)] <|
     .prim (.bin .rem) [.v 33, .v 35] <|
     .sub0 [.bool] (
      .prim (.bin .add) [.v 26, .c (.int .i64 1)] <|
      .call 16 F_fair_Is [.v 0, .v 13, .v 37] 1 <|
      .ite (.v 38) (
       .prim .min2 [.v 32, .v 36] <|
       .prim .max2 [.v 32, .v 36] <|
       .prim .len [.v 0] <|
       .prim .sub [.v 0, .v 39, .v 40] <|
       .call 16 F_fair_Is [.v 42, .v 13, .v 26] 1 <|
       .ite (.v 43) (
        .prim .len [.v 0] <|
        .prim (.bin .lss) [.v 44, .v 26] <|
        .ite (.v 45) (
         .jmp 0 false [.c (.bool true)]) (
         .call 20 F_fair_Least [.v 0, .v 13] 1 <|
         .prim (.bin .leq) [.v 46, .v 26] <|
         .jmp 0 false [.v 47])) (
        .jmp 0 false [.c (.bool false)])) (
       .jmp 0 false [.c (.bool false)])) 1 <|
     .jmp 0 false [.v 37]))))
theorem a_l23_FairMade : treeOf cx 12 4 = some A_l23_FairMade.erase := by kernel_rfl
theorem k_l23_FairMade : FnOk cx 12 noC 4 F_l23_FairMade := fn_ok (t := A_l23_FairMade) a_l23_FairMade (fun _ => rfl) (ok_of [(14, F_l23_awake.fn), (23, F_fair_Turns), (16, F_fair_Is), (20, F_fair_Least), (16, F_fair_Is), (20, F_fair_Least), (16, F_fair_Is), (16, F_fair_Is), (20, F_fair_Least)] (by kernel_rfl) (.cons k_l23_awake (.cons k_fair_Turns (.cons k_fair_Is (.cons k_fair_Least (.cons k_fair_Is (.cons k_fair_Least (.cons k_fair_Is (.cons k_fair_Is (.cons k_fair_Least .nil)))))))))) (fun x => by kernel_rfl)

end Go.Proofs.Ytflnpiknckdmfaa
