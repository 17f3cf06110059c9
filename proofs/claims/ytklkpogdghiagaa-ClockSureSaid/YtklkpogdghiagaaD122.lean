/- More functions of this cut as functions of plain typed data. Printed by a program of this claim's prover; each is checked here to be what the executor makes of the code. -/
import Derived.Test.YtklkpogdghiagaaD121
set_option linter.unusedVariables false
set_option maxRecDepth 100000
namespace Go.Proofs.Ytklkpogdghiagaa
open Go.SX
/-! 4: backstay/backstaylaw12.ClockKeeps -/
noncomputable def l12_ClockKeeps_L1 (x0 : Clock) (x6 : Clock) (s : Int) : Option (Int ⊕ Unit ⊕ Bool) :=
  if decide (s < (List.length (Clock.Marks x6) : Int)) then
    (getO (Clock.Marks x6) s).bind fun v25 =>
    (getO (Clock.Marks x0) (w64 ((w64 ((List.length (Clock.Marks x0) : Int) - (List.length (Clock.Marks x6) : Int))) + s))).bind fun v33 =>
    (r12_Mark v25 v33).bind fun v34 =>
    if !v34 then
      some (Sum.inr (Sum.inr (false)))
    else
      some (Sum.inl (w64 (s + (1 : Int))))
  else
    some (Sum.inr (Sum.inl ()))
noncomputable def l12_ClockKeeps (p0 : Clock) (p1 : Int) (p2 : Int) : Option Bool :=
  if !l12_awake then
    some (false)
  else
    (
      (r12_Short p0).bind fun v5 =>
      if !v5 then
        some (true)
      else
        some ((decide ((549755813888 : Int) < p1))) : Option Bool).bind fun v5 =>
    if v5 then
      some (true)
    else
      (clock_Keep p0 p1).bind fun v6 =>
      if !decide (v6.2 = (0 : Int)) then
        (r12_Same v6.1 p0).bind fun v9 =>
        some (v9)
      else
        (clock_Sure p0 (w64 (p1 + (w64 p2)))).bind fun v11 =>
        (clock_Sure v6.1 (w64 (p1 + (w64 p2)))).bind fun v15 =>
        (clock_Keep v6.1 p1).bind fun v17 =>
        (
          if !decide (v11.2 = (0 : Int)) then
            some (true)
          else
            if !decide (v15.2 = (0 : Int)) then
              some (true)
            else
              if !decide (v17.2 = (0 : Int)) then
                some (true)
              else
                (r12_Mark v11.1 v15.1).bind fun v22 =>
                if !v22 then
                  some (true)
                else
                  (r12_Same v6.1 v17.1).bind fun v24 =>
                  if !v24 then
                    some (true)
                  else
                    some ((decide ((List.length (Clock.Marks p0) : Int) < (List.length (Clock.Marks v6.1) : Int)))) : Option Bool).bind fun v19 =>
        if v19 then
          some (false)
        else
          orExit (
            loopD (l12_ClockKeeps_L1 p0 v6.1) (0 : Int) : Option (Unit ⊕ Bool)) fun v20 =>
          some (true)
noncomputable def F_l12_ClockKeeps : FnT := ⟨[tClock, .int .i64, .int .u16], [.bool], fun x => l12_ClockKeeps x.1 x.2.1 x.2.2⟩
noncomputable def A_l12_ClockKeeps : TA :=
 .callp 19 F_l12_awake [] 1 <|
 .prim (.un .not) [.v 3] <|
 .ite (.v 4) (
  .jmp 0 false [.c (.bool false)]) (
  .sub0 [.bool] (
   .call 20 F_r12_Short [.v 0] 1 <|
   .prim (.un .not) [.v 5] <|
   .ite (.v 6) (
    .jmp 0 false [.c (.bool true)]) (
    .prim (.bin .gtr) [.v 1, .c (.int .i64 549755813888)] <|
    .jmp 0 false [.v 7])) 1 <|
  .ite (.v 5) (
   .jmp 0 false [.c (.bool true)]) (
   .call 21 F_clock_Keep [.v 0, .v 1] 2 <|
   .prim (.bin .neq) [.v 7, .c (.int .i64 0)] <|
   .ite (.v 8) (
    .call 22 F_r12_Same [.v 6, .v 0] 1 <|
    .jmp 0 false [.v 9]) (
    .prim (.conv .i64) [.v 2] <|
    .prim (.bin .add) [.v 1, .v 9] <|
    .call 23 F_clock_Sure [.v 0, .v 10] 2 <|
    .prim (.conv .i64) [.v 2] <|
    .prim (.bin .add) [.v 1, .v 13] <|
    .call 23 F_clock_Sure [.v 6, .v 14] 2 <|
    .call 21 F_clock_Keep [.v 6, .v 1] 2 <|
    .sub0 [.bool] (
     .prim (.bin .neq) [.v 12, .c (.int .i64 0)] <|
     .ite (.v 19) (
      .jmp 0 false [.c (.bool true)]) (
      .prim (.bin .neq) [.v 16, .c (.int .i64 0)] <|
      .ite (.v 20) (
       .jmp 0 false [.c (.bool true)]) (
       .prim (.bin .neq) [.v 18, .c (.int .i64 0)] <|
       .ite (.v 21) (
        .jmp 0 false [.c (.bool true)]) (
        .call 24 F_r12_Mark [.v 11, .v 15] 1 <|
        .prim (.un .not) [.v 22] <|
        .ite (.v 23) (
         .jmp 0 false [.c (.bool true)]) (
         .call 22 F_r12_Same [.v 6, .v 17] 1 <|
         .prim (.un .not) [.v 24] <|
         .ite (.v 25) (
          .jmp 0 false [.c (.bool true)]) (
          .prim (.fld 0) [.v 6] <|
          .prim .len [.v 26] <|
          .prim (.fld 0) [.v 0] <|
          .prim .len [.v 28] <|
          .prim (.bin .gtr) [.v 27, .v 29] <|
          .jmp 0 false [.v 30])))))) 1 <|
    .ite (.v 19) (
     .jmp 0 false [.c (.bool false)]) (
     .sub1 [] (
      .loop [.int .i64] [.c (.int .i64 0)] (
       .prim (.fld 0) [.v 6] <|
       .prim .len [.v 21] <|
       .prim (.bin .lss) [.v 20, .v 22] <|
       .ite (.v 23) (
        .prim (.fld 0) [.v 6] <|
        .prim .get [.v 24, .v 20] <|
        .prim (.fld 0) [.v 0] <|
        .prim (.fld 0) [.v 0] <|
        .prim .len [.v 27] <|
        .prim (.fld 0) [.v 6] <|
        .prim .len [.v 29] <|
        .prim (.bin .sub) [.v 28, .v 30] <|
        .prim (.bin .add) [.v 31, .v 20] <|
        .prim .get [.v 26, .v 32] <|
        .call 24 F_r12_Mark [.v 25, .v 33] 1 <|
        .prim (.un .not) [.v 34] <|
        .ite (.v 35) (
         .jmp 2 false [.c (.bool false)]) (
         .prim (.bin .add) [.v 20, .c (.int .i64 1)] <|
         .jmp 0 true [.v 36])) (
        .jmp 1 false []))) 0 <|
     .jmp 0 false [.c (.bool true)]))))
theorem a_l12_ClockKeeps : treeOf cx 12 4 = some A_l12_ClockKeeps.erase := by kernel_rfl
theorem k_l12_ClockKeeps : FnOk cx 12 noC 4 F_l12_ClockKeeps := fn_ok (t := A_l12_ClockKeeps) a_l12_ClockKeeps (fun _ => rfl) (ok_of [(19, F_l12_awake.fn), (20, F_r12_Short), (21, F_clock_Keep), (22, F_r12_Same), (23, F_clock_Sure), (23, F_clock_Sure), (21, F_clock_Keep), (24, F_r12_Mark), (22, F_r12_Same), (24, F_r12_Mark)] (by kernel_rfl) (.cons k_l12_awake (.cons k_r12_Short (.cons k_clock_Keep (.cons k_r12_Same (.cons k_clock_Sure (.cons k_clock_Sure (.cons k_clock_Keep (.cons k_r12_Mark (.cons k_r12_Same (.cons k_r12_Mark .nil))))))))))) (fun x => by kernel_rfl)

end Go.Proofs.Ytklkpogdghiagaa
