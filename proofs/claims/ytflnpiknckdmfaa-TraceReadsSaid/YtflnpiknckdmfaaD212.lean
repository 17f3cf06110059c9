/- More functions of this cut as functions of plain typed data. Printed by a program of this claim's prover; each is checked here to be what the executor makes of the code. -/
import Derived.Test.YtflnpiknckdmfaaD211
set_option linter.unusedVariables false
set_option maxRecDepth 100000
namespace Go.Proofs.Ytflnpiknckdmfaa
open Go.SX
/-! 8: backstay/backstaylaw21.TraceRight -/
noncomputable def l21_TraceRight_L1 (x0 : List Deed) (x16 : List Int) (s : Int) : Option (Int ⊕ Unit ⊕ Bool) :=
  if decide (s < (List.length x16 : Int)) then
    (getO x16 s).bind fun v23 =>
    (r21_Sees x0 s).bind fun v24 =>
    if !decide (v23 = v24) then
      some (Sum.inr (Sum.inr (false)))
    else
      some (Sum.inl (w64 (s + (1 : Int))))
  else
    some (Sum.inr (Sum.inl ()))
noncomputable def l21_TraceRight (p0 : List Deed) (p1 : List Deed) (p2 : List Bool) (p3 : Int) (p4 : Int) : Option Bool :=
  if !l21_awake then
    some (false)
  else
    if (decide ((100 : Int) < (List.length p0 : Int))) || ((decide ((100 : Int) < (List.length p1 : Int))) || (decide ((300 : Int) < (List.length p2 : Int)))) then
      some (true)
    else
      (appO 32 ([] : List Deed) p0).bind fun v8 =>
      (trace_After v8 p3).bind fun v9 =>
      (r21_After p0 p3).bind fun v11 =>
      (r21_First p0 p3).bind fun v13 =>
      (
        (r04_Words v9.1 v11.1).bind fun v15 =>
        if !v15 then
          some (true)
        else
          if !decide (v9.2 = v11.2) then
            some (true)
          else
            (trace_First v8 p3).bind fun v18 =>
            if !decide (v18 = v13) then
              some (true)
            else
              (trace_Holds v8 p3).bind fun v20 =>
              if (decide ((1 : Int) ≤ p3)) && (decide (p3 ≤ (64 : Int))) then
                some ((!decide (v20 = (decide (v13 = (List.length p0 : Int))))))
              else
                some ((!decide (v20 = false))) : Option Bool).bind fun v15 =>
      if v15 then
        some (false)
      else
        (trace_Sees v8).bind fun v16 =>
        if !decide ((List.length v16 : Int) = (List.length p0 : Int)) then
          some (false)
        else
          orExit (
            loopD (l21_TraceRight_L1 p0 v16) (0 : Int) : Option (Unit ⊕ Bool)) fun v20 =>
          (
            (trace_Of v8 p4).bind fun v20 =>
            (r21_Of p0 p4).bind fun v21 =>
            (r21_Same v20 v21).bind fun v22 =>
            if v22 then
              (trace_Mix v8 p1 p2).bind fun v23 =>
              (r21_Mix p0 p1 p2).bind fun v24 =>
              (r21_Same v23 v24).bind fun v25 =>
              if v25 then
                (r21_Same v8 p0).bind fun v26 =>
                some (v26)
              else
                some (false)
            else
              some (false) : Option Bool).bind fun v20 =>
          some (v20)
noncomputable def F_l21_TraceRight : FnT := ⟨[.sl tDeed, .sl tDeed, .sl .bool, .int .i64, .int .i64], [.bool], fun x => l21_TraceRight x.1 x.2.1 x.2.2.1 x.2.2.2.1 x.2.2.2.2⟩
noncomputable def A_l21_TraceRight : TA :=
 .callp 40 F_l21_awake [] 1 <|
 .prim (.un .not) [.v 5] <|
 .ite (.v 6) (
  .jmp 0 false [.c (.bool false)]) (
  .subp [.bool] (
   .prim .len [.v 0] <|
   .prim (.bin .gtr) [.v 7, .c (.int .i64 100)] <|
   .ite (.v 8) (
    .jmp 0 false [.c (.bool true)]) (
    .prim .len [.v 1] <|
    .prim (.bin .gtr) [.v 9, .c (.int .i64 100)] <|
    .ite (.v 10) (
     .jmp 0 false [.c (.bool true)]) (
     .prim .len [.v 2] <|
     .prim (.bin .gtr) [.v 11, .c (.int .i64 300)] <|
     .jmp 0 false [.v 12]))) 1 <|
  .ite (.v 7) (
   .jmp 0 false [.c (.bool true)]) (
   .primH (.app 32) (.sl tDeed) [.c (.sl []), .v 0] <|
   .call 41 F_trace_After [.v 8, .v 3] 2 <|
   .call 42 F_r21_After [.v 0, .v 3] 2 <|
   .call 43 F_r21_First [.v 0, .v 3] 1 <|
   .subp [.bool] (
    .prim (.bin .geq) [.v 3, .c (.int .i64 1)] <|
    .ite (.v 14) (
     .prim (.bin .leq) [.v 3, .c (.int .i64 64)] <|
     .jmp 0 false [.v 15]) (
     .jmp 0 false [.c (.bool false)])) 1 <|
   .sub0 [.bool] (
    .call 44 F_r04_Words [.v 9, .v 11] 1 <|
    .prim (.un .not) [.v 15] <|
    .ite (.v 16) (
     .jmp 0 false [.c (.bool true)]) (
     .prim (.bin .neq) [.v 10, .v 12] <|
     .ite (.v 17) (
      .jmp 0 false [.c (.bool true)]) (
      .call 45 F_trace_First [.v 8, .v 3] 1 <|
      .prim (.bin .neq) [.v 18, .v 13] <|
      .ite (.v 19) (
       .jmp 0 false [.c (.bool true)]) (
       .call 46 F_trace_Holds [.v 8, .v 3] 1 <|
       .ite (.v 14) (
        .prim .len [.v 0] <|
        .prim (.bin .eql) [.v 13, .v 21] <|
        .prim (.bin .neq) [.v 20, .v 22] <|
        .jmp 0 false [.v 23]) (
        .prim (.bin .neq) [.v 20, .c (.bool false)] <|
        .jmp 0 false [.v 21]))))) 1 <|
   .ite (.v 15) (
    .jmp 0 false [.c (.bool false)]) (
    .call 47 F_trace_Sees [.v 8] 1 <|
    .prim .len [.v 16] <|
    .prim .len [.v 0] <|
    .prim (.bin .neq) [.v 17, .v 18] <|
    .ite (.v 19) (
     .jmp 0 false [.c (.bool false)]) (
     .sub1 [] (
      .loop [.int .i64] [.c (.int .i64 0)] (
       .prim .len [.v 16] <|
       .prim (.bin .lss) [.v 20, .v 21] <|
       .ite (.v 22) (
        .prim .get [.v 16, .v 20] <|
        .call 48 F_r21_Sees [.v 0, .v 20] 1 <|
        .prim (.bin .neq) [.v 23, .v 24] <|
        .ite (.v 25) (
         .jmp 2 false [.c (.bool false)]) (
         .prim (.bin .add) [.v 20, .c (.int .i64 1)] <|
         .jmp 0 true [.v 26])) (
        .jmp 1 false []))) 0 <|
     .sub0 [.bool] (
      .call 50 F_trace_Of [.v 8, .v 4] 1 <|
      .call 51 F_r21_Of [.v 0, .v 4] 1 <|
      .call 49 F_r21_Same [.v 20, .v 21] 1 <|
      .ite (.v 22) (
       .call 52 F_trace_Mix [.v 8, .v 1, .v 2] 1 <|
       .call 53 F_r21_Mix [.v 0, .v 1, .v 2] 1 <|
       .call 49 F_r21_Same [.v 23, .v 24] 1 <|
       .ite (.v 25) (
        .call 49 F_r21_Same [.v 8, .v 0] 1 <|
        .jmp 0 false [.v 26]) (
        .jmp 0 false [.c (.bool false)])) (
       .jmp 0 false [.c (.bool false)])) 1 <|
     .jmp 0 false [.v 20]))))
theorem a_l21_TraceRight : treeOf cx 12 8 = some A_l21_TraceRight.erase := by kernel_rfl
theorem k_l21_TraceRight : FnOk cx 12 noC 8 F_l21_TraceRight := fn_ok (t := A_l21_TraceRight) a_l21_TraceRight (fun _ => rfl) (ok_of [(40, F_l21_awake.fn), (41, F_trace_After), (42, F_r21_After), (43, F_r21_First), (44, F_r04_Words), (45, F_trace_First), (46, F_trace_Holds), (47, F_trace_Sees), (48, F_r21_Sees), (50, F_trace_Of), (51, F_r21_Of), (49, F_r21_Same), (52, F_trace_Mix), (53, F_r21_Mix), (49, F_r21_Same), (49, F_r21_Same)] (by kernel_rfl) (.cons k_l21_awake (.cons k_trace_After (.cons k_r21_After (.cons k_r21_First (.cons k_r04_Words (.cons k_trace_First (.cons k_trace_Holds (.cons k_trace_Sees (.cons k_r21_Sees (.cons k_trace_Of (.cons k_r21_Of (.cons k_r21_Same (.cons k_trace_Mix (.cons k_r21_Mix (.cons k_r21_Same (.cons k_r21_Same .nil))))))))))))))))) (fun x => by kernel_rfl)

end Go.Proofs.Ytflnpiknckdmfaa
