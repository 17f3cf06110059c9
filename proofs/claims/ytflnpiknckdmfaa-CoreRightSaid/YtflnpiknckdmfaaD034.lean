/- More functions of this cut as functions of plain typed data. Printed by a program of this claim's prover; each is checked here to be what the executor makes of the code. -/
import Derived.Test.YtflnpiknckdmfaaD033
set_option linter.unusedVariables false
set_option maxRecDepth 100000
namespace Go.Proofs.Ytflnpiknckdmfaa
open Go.SX
/-! 13: backstay/backstaylaw03.CoreAnswers -/
noncomputable def l03_CoreAnswers_L1 (x2 : Int) (x3 : Int) (x13 : Core) (x14 : Core) (s : Int) : Option (Int ⊕ Unit ⊕ Bool) :=
  if decide (s < (8 : Int)) then
    (
      (idxO (8 : Int) s).bind fun v19 =>
      (getO (Core.Regs x13) v19).bind fun v21 =>
      (idxO (8 : Int) s).bind fun v22 =>
      (getO (Core.Regs x14) v22).bind fun v24 =>
      if !decide (v21 = v24) then
        (idxO (8 : Int) s).bind fun v26 =>
        (getO (Core.Regs x13) v26).bind fun v28 =>
        if !decide (v28 = x2) then
          some (true)
        else
          (idxO (8 : Int) s).bind fun v30 =>
          (getO (Core.Regs x14) v30).bind fun v32 =>
          some ((!decide (v32 = x3)))
      else
        some (false) : Option Bool).bind fun v19 =>
    if v19 then
      some (Sum.inr (Sum.inr (false)))
    else
      some (Sum.inl (w64 (s + (1 : Int))))
  else
    some (Sum.inr (Sum.inl ()))
noncomputable def l03_CoreAnswers (p0 : List Ins) (p1 : Core) (p2 : Int) (p3 : Int) (p4 : Int) : Option Bool :=
  if !l03_awake then
    some (false)
  else
    (
      if decide ((80 : Int) < (List.length p0 : Int)) then
        some (true)
      else
        (core_Right p0 p1).bind fun v9 =>
        some ((!v9)) : Option Bool).bind fun v7 =>
    if v7 then
      some (true)
    else
      (remO p4 (64 : Int)).bind fun v8 =>
      (core_Wants p0 p1 (w64 ((w64 v8) + (1 : Int)))).bind fun v11 =>
      (core_Done p0 p1 p2).bind fun v13 =>
      (core_Done p0 p1 p3).bind fun v14 =>
      if !((decide ((Want.Kind v11) = (1 : Int))) || (decide ((Want.Kind v11) = (3 : Int)))) then
        some ((@decide (v13 = v14) (Ty.dec tCore _ _)))
      else
        if bif !decide (p2 = p3) then (@decide (v13 = v14) (Ty.dec tCore _ _)) || ((!decide ((Core.PC v13) = (Core.PC v14))) || (!decide ((Core.Halted v13) = (Core.Halted v14)))) else (!decide ((Core.PC v13) = (Core.PC v14))) || (!decide ((Core.Halted v13) = (Core.Halted v14))) then
          some (false)
        else
          orExit (
            loopD (l03_CoreAnswers_L1 p2 p3 v13 v14) (0 : Int) : Option (Unit ⊕ Bool)) fun v17 =>
          some (true)
noncomputable def F_l03_CoreAnswers : FnT := ⟨[.sl tIns, tCore, .int .u32, .int .u32, .int .u8], [.bool], fun x => l03_CoreAnswers x.1 x.2.1 x.2.2.1 x.2.2.2.1 x.2.2.2.2⟩
noncomputable def A_l03_CoreAnswers : TA :=
 .callp 54 F_l03_awake [] 1 <|
 .prim (.un .not) [.v 5] <|
 .ite (.v 6) (
  .jmp 0 false [.c (.bool false)]) (
  .sub0 [.bool] (
   .prim .len [.v 0] <|
   .prim (.bin .gtr) [.v 7, .c (.int .i64 80)] <|
   .ite (.v 8) (
    .jmp 0 false [.c (.bool true)]) (
    .call 55 F_core_Right [.v 0, .v 1] 1 <|
    .prim (.un .not) [.v 9] <|
    .jmp 0 false [.v 10])) 1 <|
  .ite (.v 7) (
   .jmp 0 false [.c (.bool true)]) (
   .prim (.bin .rem) [.v 4, .c (.int .u8 64)] <|
   .prim (.conv .i64) [.v 8] <|
   .prim (.bin .add) [.v 9, .c (.int .i64 1)] <|
   .call 57 F_core_Wants [.v 0, .v 1, .v 10] 1 <|
   .subp [.bool] (
    .prim (.fld 0) [.v 11] <|
    .prim (.bin .eql) [.v 12, .c (.int .i64 1)] <|
    .ite (.v 13) (
     .jmp 0 false [.c (.bool true)]) (
     .prim (.fld 0) [.v 11] <|
     .prim (.bin .eql) [.v 14, .c (.int .i64 3)] <|
     .jmp 0 false [.v 15])) 1 <|
   .call 59 F_core_Done [.v 0, .v 1, .v 2] 1 <|
   .call 59 F_core_Done [.v 0, .v 1, .v 3] 1 <|
   .prim (.un .not) [.v 12] <|
   .ite (.v 15) (
    .prim .eqv [.v 13, .v 14] <|
    .jmp 0 false [.v 16]) (
    .subp [.bool] (
     .prim (.bin .neq) [.v 2, .v 3] <|
     .ite (.v 16) (
      .prim .eqv [.v 13, .v 14] <|
      .ite (.v 17) (
       .jmp 0 false [.c (.bool true)]) (
       .prim (.fld 1) [.v 13] <|
       .prim (.fld 1) [.v 14] <|
       .prim (.bin .neq) [.v 18, .v 19] <|
       .ite (.v 20) (
        .jmp 0 false [.c (.bool true)]) (
        .prim (.fld 2) [.v 13] <|
        .prim (.fld 2) [.v 14] <|
        .prim (.bin .neq) [.v 21, .v 22] <|
        .jmp 0 false [.v 23]))) (
      .prim (.fld 1) [.v 13] <|
      .prim (.fld 1) [.v 14] <|
      .prim (.bin .neq) [.v 17, .v 18] <|
      .ite (.v 19) (
       .jmp 0 false [.c (.bool true)]) (
       .prim (.fld 2) [.v 13] <|
       .prim (.fld 2) [.v 14] <|
       .prim (.bin .neq) [.v 20, .v 21] <|
       .jmp 0 false [.v 22]))) 1 <|
    .ite (.v 16) (
     .jmp 0 false [.c (.bool false)]) (
     .sub1 [] (
      .loop [.int .i64] [.c (.int .i64 0)] (
       .prim (.bin .lss) [.v 17, .c (.int .i64 8)] <|
       .ite (.v 18) (
        .sub0 [.bool] (
         .prim (.idxn 8) [.v 17] <|
         .prim (.fld 0) [.v 13] <|
         .prim .get [.v 20, .v 19] <|
         .prim (.idxn 8) [.v 17] <|
         .prim (.fld 0) [.v 14] <|
         .prim .get [.v 23, .v 22] <|
         .prim (.bin .neq) [.v 21, .v 24] <|
         .ite (.v 25) (
          .prim (.idxn 8) [.v 17] <|
          .prim (.fld 0) [.v 13] <|
          .prim .get [.v 27, .v 26] <|
          .prim (.bin .neq) [.v 28, .v 2] <|
          .ite (.v 29) (
           .jmp 0 false [.c (.bool true)]) (
           .prim (.idxn 8) [.v 17] <|
           .prim (.fld 0) [.v 14] <|
           .prim .get [.v 31, .v 30] <|
           .prim (.bin .neq) [.v 32, .v 3] <|
           .jmp 0 false [.v 33])) (
          .jmp 0 false [.c (.bool false)])) 1 <|
        .ite (.v 19) (
         .jmp 2 false [.c (.bool false)]) (
         .prim (.bin .add) [.v 17, .c (.int .i64 1)] <|
         .jmp 0 true [.v 20])) (
        .jmp 1 false []))) 0 <|
     .jmp 0 false [.c (.bool true)]))))
theorem a_l03_CoreAnswers : treeOf cx 12 13 = some A_l03_CoreAnswers.erase := by kernel_rfl
theorem k_l03_CoreAnswers : FnOk cx 12 noC 13 F_l03_CoreAnswers := fn_ok (t := A_l03_CoreAnswers) a_l03_CoreAnswers (fun _ => rfl) (ok_of [(54, F_l03_awake.fn), (55, F_core_Right), (57, F_core_Wants), (59, F_core_Done), (59, F_core_Done)] (by kernel_rfl) (.cons k_l03_awake (.cons k_core_Right (.cons k_core_Wants (.cons k_core_Done (.cons k_core_Done .nil)))))) (fun x => by kernel_rfl)

end Go.Proofs.Ytflnpiknckdmfaa
