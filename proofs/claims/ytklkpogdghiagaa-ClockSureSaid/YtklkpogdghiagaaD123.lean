/- More functions of this cut as functions of plain typed data. Printed by a program of this claim's prover; each is checked here to be what the executor makes of the code. -/
import Derived.Test.YtklkpogdghiagaaD122
set_option linter.unusedVariables false
set_option maxRecDepth 100000
namespace Go.Proofs.Ytklkpogdghiagaa
open Go.SX
/-! 7: backstay/backstaylaw12.ClockSure -/
noncomputable def l12_ClockSure_L1 (x0 : Int) (x18 : Int) (x24 : Clock) (x25 : Mark) (s : Int) : Option (Int ⊕ Unit ⊕ (Int × Int × Int × Clock × Mark) ⊕ Unit ⊕ Bool) :=
  if decide (s < (List.length (Clock.Marks x24) : Int)) then
    (
      (getO (Clock.Marks x24) s).bind fun v33 =>
      if decide ((w64 x0) < (w64 (x18 - (Mark.When v33)))) then
        (getO (Clock.Marks x24) s).bind fun v39 =>
        some ((decide ((Mark.When x25) < (Mark.When v39))))
      else
        some (false) : Option Bool).bind fun v32 =>
    if v32 then
      some (Sum.inr (Sum.inr (Sum.inr (Sum.inr (false)))))
    else
      some (Sum.inl (w64 (s + (1 : Int))))
  else
    some (Sum.inr (Sum.inl ()))
noncomputable def l12_ClockSure_L2 (x0 : Int) (x1 : List l12_Do) (s : (Int × Int × Int × Clock × Mark)) : Option ((Int × Int × Int × Clock × Mark) ⊕ Unit ⊕ Bool) :=
  if (decide (s.2.2.1 < (List.length x1 : Int))) && (decide (s.2.2.1 < (100 : Int))) then
    (getO x1 s.2.2.1).bind fun v15 =>
    let v18 : Int := w64 (s.1 + (w64 (l12_Do.More v15)))
    (getO x1 s.2.2.1).bind fun v19 =>
    (remO (l12_Do.Kind v19) (3 : Int)).bind fun v21 =>
    orExit (
      if decide (v21 = (0 : Int)) then
        (clock_Tick s.2.2.2.1 (w64 (s.2.1 + (1 : Int))) v18 ([] : List Core)).bind fun v24 =>
        (
          if decide ((List.length (Clock.Marks s.2.2.2.1) : Int) < (8 : Int)) then
            (getO (Clock.Marks s.2.2.2.1) (w64 ((List.length (Clock.Marks s.2.2.2.1) : Int) - (1 : Int)))).bind fun v33 =>
            some ((decide ((Mark.When v33) < v18)))
          else
            some (false) : Option Bool).bind fun v26 =>
        if (!decide ((decide (v24.2 = (0 : Int))) = v26)) || ((decide (v24.2 = (0 : Int))) && (!decide ((List.length (Clock.Marks v24.1) : Int) = (w64 ((List.length (Clock.Marks s.2.2.2.1) : Int) + (1 : Int)))))) then
          some (Sum.inr (Sum.inr (Sum.inr (false))))
        else
          some (Sum.inl (bif decide (v24.2 = (0 : Int)) then w64 (s.2.1 + (1 : Int)) else s.2.1, v24.1))
      else
        orExit (
          if decide (v21 = (1 : Int)) then
            (clock_Keep s.2.2.2.1 v18).bind fun v24 =>
            if (!decide (v24.2 = (0 : Int))) || (decide ((List.length (Clock.Marks v24.1) : Int) = (0 : Int))) then
              some (Sum.inr (Sum.inr (Sum.inr (Sum.inr (false)))))
            else
              (clock_Sure s.2.2.2.1 v18).bind fun v27 =>
              (
                if !decide (v27.2 = (0 : Int)) then
                  some (true)
                else
                  (getO (Clock.Marks v24.1) (0 : Int)).bind fun v31 =>
                  (r12_Mark v31 v27.1).bind fun v32 =>
                  some ((!v32)) : Option Bool).bind fun v29 =>
              if v29 then
                some (Sum.inr (Sum.inr (Sum.inr (Sum.inr (false)))))
              else
                some (Sum.inl v24.1)
          else
            (clock_Sure s.2.2.2.1 v18).bind fun v24 =>
            (clock_Back s.2.2.2.1 v18).bind fun v26 =>
            (
              if !decide (v26.2.2 = (0 : Int)) then
                some (true)
              else
                if !decide ((List.length (Clock.Marks v26.1) : Int) = (1 : Int)) then
                  some (true)
                else
                  (r12_Mark v24.1 v26.2.1).bind fun v33 =>
                  if !v33 then
                    some (true)
                  else
                    (getO (Clock.Marks v26.1) (0 : Int)).bind fun v36 =>
                    (r12_Mark v36 v24.1).bind fun v37 =>
                    some ((!v37)) : Option Bool).bind fun v29 =>
            if v29 then
              some (Sum.inr (Sum.inr (Sum.inr (Sum.inr (false)))))
            else
              some (Sum.inl v26.1) : Option (Clock ⊕ (Int × Clock) ⊕ (Int × Int × Int × Clock × Mark) ⊕ Unit ⊕ Bool)) fun v24 =>
        some (Sum.inl (s.2.1, v24)) : Option ((Int × Clock) ⊕ (Int × Int × Int × Clock × Mark) ⊕ Unit ⊕ Bool)) fun v23 =>
    (clock_Sure v23.2 v18).bind fun v25 =>
    (
      if !decide (v25.2 = (0 : Int)) then
        some (true)
      else
        if decide ((Mark.When v25.1) < (Mark.When s.2.2.2.2)) then
          some (true)
        else
          if decide ((Mark.Span v25.1) < (Mark.Span s.2.2.2.2)) then
            some (true)
          else
            (clock_Right v23.2).bind fun v34 =>
            some ((!v34)) : Option Bool).bind fun v27 =>
    if v27 then
      some (Sum.inr (Sum.inr (false)))
    else
      orExit (
        loopD (l12_ClockSure_L1 x0 v18 v23.2 v25.1) (0 : Int) : Option (Unit ⊕ (Int × Int × Int × Clock × Mark) ⊕ Unit ⊕ Bool)) fun v28 =>
      some (Sum.inl (v18, v23.1, w64 (s.2.2.1 + (1 : Int)), v23.2, v25.1))
  else
    some (Sum.inr (Sum.inl ()))
noncomputable def l12_ClockSure (p0 : Int) (p1 : List l12_Do) : Option Bool :=
  if !l12_awake then
    some (false)
  else
    (clock_New (w64 ((w64 p0) + (1 : Int))) ([] : List Core)).bind fun v6 =>
    if !decide (v6.2 = (0 : Int)) then
      some (false)
    else
      orExit (
        loopD (l12_ClockSure_L2 p0 p1) ((0 : Int), (0 : Int), (0 : Int), v6.1, (Mark.mk (0 : Int) (0 : Int) ([] : List Core))) : Option (Unit ⊕ Bool)) fun v9 =>
      some (true)
noncomputable def F_l12_ClockSure : FnT := ⟨[.int .u8, .sl tl12_Do], [.bool], fun x => l12_ClockSure x.1 x.2⟩
noncomputable def A_l12_ClockSure : TA :=
 .callp 19 F_l12_awake [] 1 <|
 .prim (.un .not) [.v 2] <|
 .ite (.v 3) (
  .jmp 0 false [.c (.bool false)]) (
  .prim (.conv .i64) [.v 0] <|
  .prim (.bin .add) [.v 4, .c (.int .i64 1)] <|
  .call 35 F_clock_New [.v 5, .c .nil] 2 <|
  .prim (.bin .neq) [.v 7, .c (.int .i64 0)] <|
  .ite (.v 8) (
   .jmp 0 false [.c (.bool false)]) (
   .sub1 [] (
    .loop [.int .i64, .int .i64, .int .i64, tClock, tMark] [.c (.int .i64 0), .c (.int .i64 0), .c (.int .i64 0), .v 6, .c (.agg [(.int .i64 0), (.int .i64 0), .nil])] (
     .subp [.bool] (
      .prim .len [.v 1] <|
      .prim (.bin .lss) [.v 11, .v 14] <|
      .ite (.v 15) (
       .prim (.bin .lss) [.v 11, .c (.int .i64 100)] <|
       .jmp 0 false [.v 16]) (
       .jmp 0 false [.c (.bool false)])) 1 <|
     .ite (.v 14) (
      .prim .get [.v 1, .v 11] <|
      .prim (.fld 1) [.v 15] <|
      .prim (.conv .i64) [.v 16] <|
      .prim (.bin .add) [.v 9, .v 17] <|
      .prim .get [.v 1, .v 11] <|
      .prim (.fld 0) [.v 19] <|
      .prim (.bin .rem) [.v 20, .c (.int .u8 3)] <|
      .prim (.bin .eql) [.v 21, .c (.int .u8 0)] <|
      .sub1 [.int .i64, tClock] (
       .ite (.v 22) (
        .prim (.bin .add) [.v 10, .c (.int .i64 1)] <|
        .call 36 F_clock_Tick [.v 12, .v 23, .v 18, .c .nil] 2 <|
        .sub0 [.bool] (
         .prim (.fld 0) [.v 12] <|
         .prim .len [.v 26] <|
         .prim (.bin .lss) [.v 27, .c (.int .i64 8)] <|
         .ite (.v 28) (
          .prim (.fld 0) [.v 12] <|
          .prim (.fld 0) [.v 12] <|
          .prim .len [.v 30] <|
          .prim (.bin .sub) [.v 31, .c (.int .i64 1)] <|
          .prim .get [.v 29, .v 32] <|
          .prim (.fld 1) [.v 33] <|
          .prim (.bin .gtr) [.v 18, .v 34] <|
          .jmp 0 false [.v 35]) (
          .jmp 0 false [.c (.bool false)])) 1 <|
        .subp [.bool] (
         .prim (.bin .eql) [.v 25, .c (.int .i64 0)] <|
         .prim (.bin .neq) [.v 27, .v 26] <|
         .ite (.v 28) (
          .jmp 0 false [.c (.bool true)]) (
          .prim (.bin .eql) [.v 25, .c (.int .i64 0)] <|
          .ite (.v 29) (
           .prim (.fld 0) [.v 24] <|
           .prim .len [.v 30] <|
           .prim (.fld 0) [.v 12] <|
           .prim .len [.v 32] <|
           .prim (.bin .add) [.v 33, .c (.int .i64 1)] <|
           .prim (.bin .neq) [.v 31, .v 34] <|
           .jmp 0 false [.v 35]) (
           .jmp 0 false [.c (.bool false)]))) 1 <|
        .ite (.v 27) (
         .jmp 3 false [.c (.bool false)]) (
         .prim (.bin .eql) [.v 25, .c (.int .i64 0)] <|
         .subp [.int .i64] (
          .ite (.v 28) (
           .prim (.bin .add) [.v 10, .c (.int .i64 1)] <|
           .jmp 0 false [.v 29]) (
           .jmp 0 false [.v 10])) 1 <|
         .jmp 0 false [.v 29, .v 24])) (
        .prim (.bin .eql) [.v 21, .c (.int .u8 1)] <|
        .sub1 [tClock] (
         .ite (.v 23) (
          .call 21 F_clock_Keep [.v 12, .v 18] 2 <|
          .subp [.bool] (
           .prim (.bin .neq) [.v 25, .c (.int .i64 0)] <|
           .ite (.v 26) (
            .jmp 0 false [.c (.bool true)]) (
            .prim (.fld 0) [.v 24] <|
            .prim .len [.v 27] <|
            .prim (.bin .eql) [.v 28, .c (.int .i64 0)] <|
            .jmp 0 false [.v 29])) 1 <|
          .ite (.v 26) (
           .jmp 4 false [.c (.bool false)]) (
           .call 23 F_clock_Sure [.v 12, .v 18] 2 <|
           .sub0 [.bool] (
            .prim (.bin .neq) [.v 28, .c (.int .i64 0)] <|
            .ite (.v 29) (
             .jmp 0 false [.c (.bool true)]) (
             .prim (.fld 0) [.v 24] <|
             .prim .get [.v 30, .c (.int .i64 0)] <|
             .call 24 F_r12_Mark [.v 31, .v 27] 1 <|
             .prim (.un .not) [.v 32] <|
             .jmp 0 false [.v 33])) 1 <|
           .ite (.v 29) (
            .jmp 4 false [.c (.bool false)]) (
            .jmp 0 false [.v 24]))) (
          .call 23 F_clock_Sure [.v 12, .v 18] 2 <|
          .call 37 F_clock_Back [.v 12, .v 18] 3 <|
          .sub0 [.bool] (
           .prim (.bin .neq) [.v 28, .c (.int .i64 0)] <|
           .ite (.v 29) (
            .jmp 0 false [.c (.bool true)]) (
            .prim (.fld 0) [.v 26] <|
            .prim .len [.v 30] <|
            .prim (.bin .neq) [.v 31, .c (.int .i64 1)] <|
            .ite (.v 32) (
             .jmp 0 false [.c (.bool true)]) (
             .call 24 F_r12_Mark [.v 24, .v 27] 1 <|
             .prim (.un .not) [.v 33] <|
             .ite (.v 34) (
              .jmp 0 false [.c (.bool true)]) (
              .prim (.fld 0) [.v 26] <|
              .prim .get [.v 35, .c (.int .i64 0)] <|
              .call 24 F_r12_Mark [.v 36, .v 24] 1 <|
              .prim (.un .not) [.v 37] <|
              .jmp 0 false [.v 38])))) 1 <|
          .ite (.v 29) (
           .jmp 4 false [.c (.bool false)]) (
           .jmp 0 false [.v 26]))) 1 <|
        .jmp 0 false [.v 10, .v 24])) 2 <|
      .call 23 F_clock_Sure [.v 24, .v 18] 2 <|
      .sub0 [.bool] (
       .prim (.bin .neq) [.v 26, .c (.int .i64 0)] <|
       .ite (.v 27) (
        .jmp 0 false [.c (.bool true)]) (
        .prim (.fld 1) [.v 25] <|
        .prim (.fld 1) [.v 13] <|
        .prim (.bin .lss) [.v 28, .v 29] <|
        .ite (.v 30) (
         .jmp 0 false [.c (.bool true)]) (
         .prim (.fld 0) [.v 25] <|
         .prim (.fld 0) [.v 13] <|
         .prim (.bin .lss) [.v 31, .v 32] <|
         .ite (.v 33) (
          .jmp 0 false [.c (.bool true)]) (
          .call 38 F_clock_Right [.v 24] 1 <|
          .prim (.un .not) [.v 34] <|
          .jmp 0 false [.v 35])))) 1 <|
      .ite (.v 27) (
       .jmp 2 false [.c (.bool false)]) (
       .sub1 [] (
        .loop [.int .i64] [.c (.int .i64 0)] (
         .prim (.fld 0) [.v 24] <|
         .prim .len [.v 29] <|
         .prim (.bin .lss) [.v 28, .v 30] <|
         .ite (.v 31) (
          .sub0 [.bool] (
           .prim (.fld 0) [.v 24] <|
           .prim .get [.v 32, .v 28] <|
           .prim (.fld 1) [.v 33] <|
           .prim (.bin .sub) [.v 18, .v 34] <|
           .prim (.conv .i64) [.v 0] <|
           .prim (.bin .gtr) [.v 35, .v 36] <|
           .ite (.v 37) (
            .prim (.fld 0) [.v 24] <|
            .prim .get [.v 38, .v 28] <|
            .prim (.fld 1) [.v 39] <|
            .prim (.fld 1) [.v 25] <|
            .prim (.bin .gtr) [.v 40, .v 41] <|
            .jmp 0 false [.v 42]) (
            .jmp 0 false [.c (.bool false)])) 1 <|
          .ite (.v 32) (
           .jmp 4 false [.c (.bool false)]) (
           .prim (.bin .add) [.v 28, .c (.int .i64 1)] <|
           .jmp 0 true [.v 33])) (
          .jmp 1 false []))) 0 <|
       .prim (.bin .add) [.v 11, .c (.int .i64 1)] <|
       .jmp 0 true [.v 18, .v 23, .v 28, .v 24, .v 25])) (
      .jmp 1 false []))) 0 <|
   .jmp 0 false [.c (.bool true)]))
theorem a_l12_ClockSure : treeOf cx 12 7 = some A_l12_ClockSure.erase := by kernel_rfl
theorem k_l12_ClockSure : FnOk cx 12 noC 7 F_l12_ClockSure := fn_ok (t := A_l12_ClockSure) a_l12_ClockSure (fun _ => rfl) (ok_of [(19, F_l12_awake.fn), (35, F_clock_New), (36, F_clock_Tick), (21, F_clock_Keep), (23, F_clock_Sure), (24, F_r12_Mark), (23, F_clock_Sure), (37, F_clock_Back), (24, F_r12_Mark), (24, F_r12_Mark), (23, F_clock_Sure), (38, F_clock_Right)] (by kernel_rfl) (.cons k_l12_awake (.cons k_clock_New (.cons k_clock_Tick (.cons k_clock_Keep (.cons k_clock_Sure (.cons k_r12_Mark (.cons k_clock_Sure (.cons k_clock_Back (.cons k_r12_Mark (.cons k_r12_Mark (.cons k_clock_Sure (.cons k_clock_Right .nil))))))))))))) (fun x => by kernel_rfl)

end Go.Proofs.Ytklkpogdghiagaa
