/- More functions of this cut as functions of plain typed data. Printed by a program of this claim's prover; each is checked here to be what the executor makes of the code. -/
import Derived.Test.YtflnpiknckdmfaaD073
set_option linter.unusedVariables false
set_option maxRecDepth 100000
namespace Go.Proofs.Ytflnpiknckdmfaa
open Go.SX
/-! 7: backstay/backstaylaw07.ParityTurns -/
noncomputable def l07_ParityTurns_L1 (x8 : Int) (x11 : Int) (x33 : Banks) (s : Int) : Option (Int ⊕ Unit ⊕ Bool) :=
  if (decide (s < x11)) && (decide (x8 = (1 : Int))) then
    (parity_Read x33 (0 : Int) s).bind fun v50 =>
    (getO (Banks.Par x33) s).bind fun v53 =>
    if !decide (v50.1 = v53) then
      some (Sum.inr (Sum.inr (false)))
    else
      some (Sum.inl (w64 (s + (1 : Int))))
  else
    some (Sum.inr (Sum.inl ()))
noncomputable def l07_ParityTurns (p0 : Int) (p1 : Int) (p2 : l07_Put) (p3 : l07_Put) : Option Bool :=
  if !l07_awake then
    some (false)
  else
    (remO p0 (8 : Int)).bind fun v6 =>
    let v8 : Int := w64 ((w64 v6) + (1 : Int))
    (remO p1 (16 : Int)).bind fun v9 =>
    let v11 : Int := w64 ((w64 v9) + (1 : Int))
    (
      if (decide (v8 < (1 : Int))) || ((decide ((8 : Int) < v8)) || ((decide (v11 < (1 : Int))) || (decide ((64 : Int) < v11)))) then
        some (((1 : Int), ([] : List (List Int)), ([] : List Int)))
      else
        (repO (0 : Int) 4 v11 v11).bind fun v13 =>
        (
          loopD (l07_ParityRebuilds_L5 v8 v11) ((0 : Int), ([] : List (List Int))) : Option (List (List Int))).bind fun v14 =>
        some (((0 : Int), v14, v13)) : Option (Int × (List (List Int)) × (List Int))).bind fun v12 =>
    if !decide (v12.1 = (0 : Int)) then
      some (false)
    else
      (remO (w64 (l07_Put.Bank p2)) v8).bind fun v18 =>
      (remO (w64 (l07_Put.Bank p3)) v8).bind fun v21 =>
      (remO (w64 (l07_Put.At p2)) v11).bind fun v24 =>
      (remO (w64 (l07_Put.At p3)) v11).bind fun v27 =>
      (parity_Write (Banks.mk v12.2.1 v12.2.2 (0 : Int)) v18 v24 (l07_Put.Word p2)).bind fun v30 =>
      (parity_Write v30.1 v21 v27 (l07_Put.Word p3)).bind fun v33 =>
      (parity_Write (Banks.mk v12.2.1 v12.2.2 (0 : Int)) v21 v27 (l07_Put.Word p3)).bind fun v37 =>
      (parity_Write v37.1 v18 v24 (l07_Put.Word p2)).bind fun v40 =>
      (
        if !decide (v18 = v21) then
          (r07_Same v33.1 v40.1).bind fun v43 =>
          some ((!v43))
        else
          if !decide (v24 = v27) then
            (r07_Same v33.1 v40.1).bind fun v44 =>
            some ((!v44))
          else
            some (false) : Option Bool).bind fun v42 =>
      if v42 then
        some (false)
      else
        (parity_Read v33.1 v21 v27).bind fun v43 =>
        (parity_Write v33.1 v21 v27 v43.1).bind fun v45 =>
        (
          if !decide (v43.2 = (0 : Int)) then
            some (true)
          else
            if !decide (v45.2 = (0 : Int)) then
              some (true)
            else
              if !decide (v43.1 = (l07_Put.Word p3)) then
                some (true)
              else
                (r07_Same v33.1 v45.1).bind fun v51 =>
                some ((!v51)) : Option Bool).bind fun v47 =>
        if v47 then
          some (false)
        else
          orExit (
            loopD (l07_ParityTurns_L1 v8 v11 v33.1) (0 : Int) : Option (Unit ⊕ Bool)) fun v48 =>
          some (true)
noncomputable def F_l07_ParityTurns : FnT := ⟨[.int .u8, .int .u8, tl07_Put, tl07_Put], [.bool], fun x => l07_ParityTurns x.1 x.2.1 x.2.2.1 x.2.2.2⟩
noncomputable def A_l07_ParityTurns : TA :=
 .callp 25 F_l07_awake [] 1 <|
 .prim (.un .not) [.v 4] <|
 .ite (.v 5) (
  .jmp 0 false [.c (.bool false)]) (
  .prim (.bin .rem) [.v 0, .c (.int .u8 8)] <|
  .prim (.conv .i64) [.v 6] <|
  .prim (.bin .add) [.v 7, .c (.int .i64 1)] <|
  .prim (.bin .rem) [.v 1, .c (.int .u8 16)] <|
  .prim (.conv .i64) [.v 9] <|
  .prim (.bin .add) [.v 10, .c (.int .i64 1)] <|
  .sub0 [.int .i64, .sl (.sl (.int .u32)), .sl (.int .u32)] (
   .subp [.bool] (
    .prim (.bin .lss) [.v 8, .c (.int .i64 1)] <|
    .ite (.v 12) (
     .jmp 0 false [.c (.bool true)]) (
     .prim (.bin .gtr) [.v 8, .c (.int .i64 8)] <|
     .ite (.v 13) (
      .jmp 0 false [.c (.bool true)]) (
      .prim (.bin .lss) [.v 11, .c (.int .i64 1)] <|
      .ite (.v 14) (
       .jmp 0 false [.c (.bool true)]) (
       .prim (.bin .gtr) [.v 11, .c (.int .i64 64)] <|
       .jmp 0 false [.v 15])))) 1 <|
   .ite (.v 12) (
    .jmp 0 false [.c (.int .i64 1), .c .nil, .c .nil]) (
    .primH (.rep (.int .u32 0) 4) (.sl (.int .u32)) [.v 11, .v 11] <|
    .sub0 [.sl (.sl (.int .u32))] (
     .loop [.int .i64, .sl (.sl (.int .u32))] [.c (.int .i64 0), .c .nil] (
      .prim (.bin .lss) [.v 14, .v 8] <|
      .ite (.v 16) (
       .primH (.rep (.int .u32 0) 4) (.sl (.int .u32)) [.v 11, .v 11] <|
       .mkL (.sl (.int .u32)) [.v 17] <|
       .prim (.app 24) [.v 15, .v 18] <|
       .prim (.bin .add) [.v 14, .c (.int .i64 1)] <|
       .jmp 0 true [.v 20, .v 19]) (
       .jmp 1 false [.v 15]))) 1 <|
    .jmp 0 false [.c (.int .i64 0), .v 14, .v 13])) 3 <|
  .prim (.bin .neq) [.v 12, .c (.int .i64 0)] <|
  .ite (.v 15) (
   .jmp 0 false [.c (.bool false)]) (
   .prim (.fld 0) [.v 2] <|
   .prim (.conv .i64) [.v 16] <|
   .prim (.bin .rem) [.v 17, .v 8] <|
   .prim (.fld 0) [.v 3] <|
   .prim (.conv .i64) [.v 19] <|
   .prim (.bin .rem) [.v 20, .v 8] <|
   .prim (.fld 1) [.v 2] <|
   .prim (.conv .i64) [.v 22] <|
   .prim (.bin .rem) [.v 23, .v 11] <|
   .prim (.fld 1) [.v 3] <|
   .prim (.conv .i64) [.v 25] <|
   .prim (.bin .rem) [.v 26, .v 11] <|
   .prim (.fld 2) [.v 2] <|
   .mkS tsBanks [.v 13, .v 14, .c (.int .i64 0)] <|
   .call 29 F_parity_Write [.v 29, .v 18, .v 24, .v 28] 2 <|
   .prim (.fld 2) [.v 3] <|
   .call 29 F_parity_Write [.v 30, .v 21, .v 27, .v 32] 2 <|
   .prim (.fld 2) [.v 3] <|
   .mkS tsBanks [.v 13, .v 14, .c (.int .i64 0)] <|
   .call 29 F_parity_Write [.v 36, .v 21, .v 27, .v 35] 2 <|
   .prim (.fld 2) [.v 2] <|
   .call 29 F_parity_Write [.v 37, .v 18, .v 24, .v 39] 2 <|
   .sub0 [.bool] (
    .prim (.bin .neq) [.v 18, .v 21] <|
    .ite (.v 42) (
     .call 31 F_r07_Same [.v 33, .v 40] 1 <|
     .prim (.un .not) [.v 43] <|
     .jmp 0 false [.v 44]) (
     .prim (.bin .neq) [.v 24, .v 27] <|
     .ite (.v 43) (
      .call 31 F_r07_Same [.v 33, .v 40] 1 <|
      .prim (.un .not) [.v 44] <|
      .jmp 0 false [.v 45]) (
      .jmp 0 false [.c (.bool false)]))) 1 <|
   .ite (.v 42) (
    .jmp 0 false [.c (.bool false)]) (
    .call 27 F_parity_Read [.v 33, .v 21, .v 27] 2 <|
    .call 29 F_parity_Write [.v 33, .v 21, .v 27, .v 43] 2 <|
    .sub0 [.bool] (
     .prim (.bin .neq) [.v 44, .c (.int .i64 0)] <|
     .ite (.v 47) (
      .jmp 0 false [.c (.bool true)]) (
      .prim (.bin .neq) [.v 46, .c (.int .i64 0)] <|
      .ite (.v 48) (
       .jmp 0 false [.c (.bool true)]) (
       .prim (.fld 2) [.v 3] <|
       .prim (.bin .neq) [.v 43, .v 49] <|
       .ite (.v 50) (
        .jmp 0 false [.c (.bool true)]) (
        .call 31 F_r07_Same [.v 33, .v 45] 1 <|
        .prim (.un .not) [.v 51] <|
        .jmp 0 false [.v 52])))) 1 <|
    .ite (.v 47) (
     .jmp 0 false [.c (.bool false)]) (
     .sub1 [] (
      .loop [.int .i64] [.c (.int .i64 0)] (
       .subp [.bool] (
        .prim (.bin .lss) [.v 48, .v 11] <|
        .ite (.v 49) (
         .prim (.bin .eql) [.v 8, .c (.int .i64 1)] <|
         .jmp 0 false [.v 50]) (
         .jmp 0 false [.c (.bool false)])) 1 <|
       .ite (.v 49) (
        .call 27 F_parity_Read [.v 33, .c (.int .i64 0), .v 48] 2 <|
        .prim (.fld 1) [.v 33] <|
        .prim .get [.v 52, .v 48] <|
        .prim (.bin .neq) [.v 50, .v 53] <|
        .ite (.v 54) (
         .jmp 2 false [.c (.bool false)]) (
         .prim (.bin .add) [.v 48, .c (.int .i64 1)] <|
         .jmp 0 true [.v 55])) (
        .jmp 1 false []))) 0 <|
     .jmp 0 false [.c (.bool true)]))))
theorem a_l07_ParityTurns : treeOf cx 12 7 = some A_l07_ParityTurns.erase := by kernel_rfl
theorem k_l07_ParityTurns : FnOk cx 12 noC 7 F_l07_ParityTurns := fn_ok (t := A_l07_ParityTurns) a_l07_ParityTurns (fun _ => rfl) (ok_of [(25, F_l07_awake.fn), (29, F_parity_Write), (29, F_parity_Write), (29, F_parity_Write), (29, F_parity_Write), (31, F_r07_Same), (31, F_r07_Same), (27, F_parity_Read), (29, F_parity_Write), (31, F_r07_Same), (27, F_parity_Read)] (by kernel_rfl) (.cons k_l07_awake (.cons k_parity_Write (.cons k_parity_Write (.cons k_parity_Write (.cons k_parity_Write (.cons k_r07_Same (.cons k_r07_Same (.cons k_parity_Read (.cons k_parity_Write (.cons k_r07_Same (.cons k_parity_Read .nil)))))))))))) (fun x => by kernel_rfl)

end Go.Proofs.Ytflnpiknckdmfaa
