/- More functions of this cut as functions of plain typed data. Printed by a program of this claim's prover; each is checked here to be what the executor makes of the code. -/
import Derived.Test.YtflnpiknckdmfaaD213
set_option linter.unusedVariables false
set_option maxRecDepth 100000
namespace Go.Proofs.Ytflnpiknckdmfaa
open Go.SX
/-! 10: backstay/backstaylaw21.TraceReads -/
noncomputable def l21_TraceReads (p0 : List Deed) (p1 : Int) (p2 : Int) (p3 : Int) (p4 : Int) : Option Bool :=
  if !l21_awake then
    some (false)
  else
    (remO p1 (64 : Int)).bind fun v7 =>
    let v9 : Int := w64 ((w64 v7) + (1 : Int))
    (
      if decide ((100 : Int) < (List.length p0 : Int)) then
        some (true)
      else
        (trace_Holds p0 v9).bind fun v12 =>
        some ((!v12)) : Option Bool).bind fun v10 =>
    if v10 then
      some (true)
    else
      (remO (w64 p2) (w64 ((List.length p0 : Int) + (1 : Int)))).bind fun v14 =>
      (subO p0 (0 : Int) v14).bind fun v16 =>
      (trace_After v16 v9).bind fun v17 =>
      if (!decide (v17.2 = (0 : Int))) || (!decide ((List.length v17.1 : Int) = v9)) then
        some (false)
      else
        (remO (w64 p3) v9).bind fun v21 =>
        (subO p0 (0 : Int) v14).bind fun v23 =>
        (appO 32 ([] : List Deed) v23).bind fun v24 =>
        (remO p4 (4 : Int)).bind fun v25 =>
        (getO v17.1 v21).bind fun v27 =>
        (getO v17.1 v21).bind fun v28 =>
        (appO 32 v24 ([Deed.mk (w64 v25) (1 : Int) v21 v27 v28] : List Deed)).bind fun v31 =>
        (appO 32 ([] : List Deed) v31).bind fun v32 =>
        (subO p0 v14 (List.length p0 : Int)).bind fun v34 =>
        (appO 32 v32 v34).bind fun v35 =>
        (subO p0 (0 : Int) v14).bind fun v37 =>
        (appO 32 ([] : List Deed) v37).bind fun v38 =>
        (remO p4 (4 : Int)).bind fun v39 =>
        (getO v17.1 v21).bind fun v42 =>
        (getO v17.1 v21).bind fun v43 =>
        (appO 32 v38 ([Deed.mk (w64 ((w64 v39) + (4 : Int))) (1 : Int) v21 v42 v43] : List Deed)).bind fun v46 =>
        (subO p0 (0 : Int) v14).bind fun v48 =>
        (appO 32 ([] : List Deed) v48).bind fun v49 =>
        (appO 32 v49 ([Deed.mk (0 : Int) (1 : Int) v9 (0 : Int) (0 : Int)] : List Deed)).bind fun v52 =>
        (
          (trace_Holds v35 v9).bind fun v53 =>
          if !v53 then
            some (true)
          else
            (trace_Holds v46 v9).bind fun v55 =>
            if v55 then
              some (true)
            else
              (trace_Holds v52 v9).bind fun v56 =>
              some (v56) : Option Bool).bind fun v53 =>
        if v53 then
          some (false)
        else
          (
            if decide (v14 < (List.length p0 : Int)) then
              (getO p0 v14).bind fun v56 =>
              some ((decide ((Deed.Kind v56) = (1 : Int))))
            else
              some (false) : Option Bool).bind fun v54 =>
          if v54 then
            (subO p0 (0 : Int) v14).bind fun v56 =>
            (appO 32 ([] : List Deed) v56).bind fun v57 =>
            (subO p0 (w64 (v14 + (1 : Int))) (List.length p0 : Int)).bind fun v60 =>
            (appO 32 v57 v60).bind fun v61 =>
            (trace_Holds v61 v9).bind fun v62 =>
            some (v62)
          else
            some (true)
noncomputable def F_l21_TraceReads : FnT := ⟨[.sl tDeed, .int .u8, .int .u8, .int .u8, .int .u8], [.bool], fun x => l21_TraceReads x.1 x.2.1 x.2.2.1 x.2.2.2.1 x.2.2.2.2⟩
noncomputable def A_l21_TraceReads : TA :=
 .callp 40 F_l21_awake [] 1 <|
 .prim (.un .not) [.v 5] <|
 .ite (.v 6) (
  .jmp 0 false [.c (.bool false)]) (
  .prim (.bin .rem) [.v 1, .c (.int .u8 64)] <|
  .prim (.conv .i64) [.v 7] <|
  .prim (.bin .add) [.v 8, .c (.int .i64 1)] <|
  .sub0 [.bool] (
   .prim .len [.v 0] <|
   .prim (.bin .gtr) [.v 10, .c (.int .i64 100)] <|
   .ite (.v 11) (
    .jmp 0 false [.c (.bool true)]) (
    .call 46 F_trace_Holds [.v 0, .v 9] 1 <|
    .prim (.un .not) [.v 12] <|
    .jmp 0 false [.v 13])) 1 <|
  .ite (.v 10) (
   .jmp 0 false [.c (.bool true)]) (
   .prim (.conv .i64) [.v 2] <|
   .prim .len [.v 0] <|
   .prim (.bin .add) [.v 12, .c (.int .i64 1)] <|
   .prim (.bin .rem) [.v 11, .v 13] <|
   .prim .len [.v 0] <|
   .prim .sub [.v 0, .c (.int .i64 0), .v 14] <|
   .call 41 F_trace_After [.v 16, .v 9] 2 <|
   .subp [.bool] (
    .prim (.bin .neq) [.v 18, .c (.int .i64 0)] <|
    .ite (.v 19) (
     .jmp 0 false [.c (.bool true)]) (
     .prim .len [.v 17] <|
     .prim (.bin .neq) [.v 20, .v 9] <|
     .jmp 0 false [.v 21])) 1 <|
   .ite (.v 19) (
    .jmp 0 false [.c (.bool false)]) (
    .prim (.conv .i64) [.v 3] <|
    .prim (.bin .rem) [.v 20, .v 9] <|
    .prim .len [.v 0] <|
    .prim .sub [.v 0, .c (.int .i64 0), .v 14] <|
    .primH (.app 32) (.sl tDeed) [.c (.sl []), .v 23] <|
    .prim (.bin .rem) [.v 4, .c (.int .u8 4)] <|
    .prim (.conv .i64) [.v 25] <|
    .prim .get [.v 17, .v 21] <|
    .prim .get [.v 17, .v 21] <|
    .mkS tsDeed [.v 26, .c (.int .i64 1), .v 21, .v 27, .v 28] <|
    .mkL tDeed [.v 29] <|
    .prim (.app 32) [.v 24, .v 30] <|
    .primH (.app 32) (.sl tDeed) [.c (.sl []), .v 31] <|
    .prim .len [.v 0] <|
    .prim .sub [.v 0, .v 14, .v 33] <|
    .prim (.app 32) [.v 32, .v 34] <|
    .prim .len [.v 0] <|
    .prim .sub [.v 0, .c (.int .i64 0), .v 14] <|
    .primH (.app 32) (.sl tDeed) [.c (.sl []), .v 37] <|
    .prim (.bin .rem) [.v 4, .c (.int .u8 4)] <|
    .prim (.conv .i64) [.v 39] <|
    .prim (.bin .add) [.v 40, .c (.int .i64 4)] <|
    .prim .get [.v 17, .v 21] <|
    .prim .get [.v 17, .v 21] <|
    .mkS tsDeed [.v 41, .c (.int .i64 1), .v 21, .v 42, .v 43] <|
    .mkL tDeed [.v 44] <|
    .prim (.app 32) [.v 38, .v 45] <|
    .prim .len [.v 0] <|
    .prim .sub [.v 0, .c (.int .i64 0), .v 14] <|
    .primH (.app 32) (.sl tDeed) [.c (.sl []), .v 48] <|
    .mkS tsDeed [.c (.int .i64 0), .c (.int .i64 1), .v 9, .c (.int .u32 0), .c (.int .u32 0)] <|
    .mkL tDeed [.v 50] <|
    .prim (.app 32) [.v 49, .v 51] <|
    .sub0 [.bool] (
     .call 46 F_trace_Holds [.v 35, .v 9] 1 <|
     .prim (.un .not) [.v 53] <|
     .ite (.v 54) (
      .jmp 0 false [.c (.bool true)]) (
      .call 46 F_trace_Holds [.v 46, .v 9] 1 <|
      .ite (.v 55) (
       .jmp 0 false [.c (.bool true)]) (
       .call 46 F_trace_Holds [.v 52, .v 9] 1 <|
       .jmp 0 false [.v 56]))) 1 <|
    .ite (.v 53) (
     .jmp 0 false [.c (.bool false)]) (
     .sub0 [.bool] (
      .prim .len [.v 0] <|
      .prim (.bin .lss) [.v 14, .v 54] <|
      .ite (.v 55) (
       .prim .get [.v 0, .v 14] <|
       .prim (.fld 1) [.v 56] <|
       .prim (.bin .eql) [.v 57, .c (.int .i64 1)] <|
       .jmp 0 false [.v 58]) (
       .jmp 0 false [.c (.bool false)])) 1 <|
     .ite (.v 54) (
      .prim .len [.v 0] <|
      .prim .sub [.v 0, .c (.int .i64 0), .v 14] <|
      .primH (.app 32) (.sl tDeed) [.c (.sl []), .v 56] <|
      .prim (.bin .add) [.v 14, .c (.int .i64 1)] <|
      .prim .len [.v 0] <|
      .prim .sub [.v 0, .v 58, .v 59] <|
      .prim (.app 32) [.v 57, .v 60] <|
      .call 46 F_trace_Holds [.v 61, .v 9] 1 <|
      .jmp 0 false [.v 62]) (
      .jmp 0 false [.c (.bool true)])))))
theorem a_l21_TraceReads : treeOf cx 12 10 = some A_l21_TraceReads.erase := by kernel_rfl
theorem k_l21_TraceReads : FnOk cx 12 noC 10 F_l21_TraceReads := fn_ok (t := A_l21_TraceReads) a_l21_TraceReads (fun _ => rfl) (ok_of [(40, F_l21_awake.fn), (46, F_trace_Holds), (41, F_trace_After), (46, F_trace_Holds), (46, F_trace_Holds), (46, F_trace_Holds), (46, F_trace_Holds)] (by kernel_rfl) (.cons k_l21_awake (.cons k_trace_Holds (.cons k_trace_After (.cons k_trace_Holds (.cons k_trace_Holds (.cons k_trace_Holds (.cons k_trace_Holds .nil)))))))) (fun x => by kernel_rfl)

end Go.Proofs.Ytflnpiknckdmfaa
