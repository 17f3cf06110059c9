/- More functions of this cut as functions of plain typed data. Printed by a program of this claim's prover; each is checked here to be what the executor makes of the code. -/
import Derived.Test.YtkgflipalefmfaaD021
set_option linter.unusedVariables false
set_option maxRecDepth 100000
namespace Go.Proofs.Ytkgflipalefmfaa
open Go.SX
/-! 8: backstay/backstaylaw02.IsaUses -/
noncomputable def l02_IsaUses (p0 : Int) (p1 : Int) (p2 : Int) (p3 : Int) (p4 : Int) (p5 : Int) : Option Bool :=
  if !l02_awake then
    some (false)
  else
    let v8 : (Bool × Bool × Bool × Bool) := isa_Uses p0
    if (decide (p0 < (1 : Int))) || (decide ((16 : Int) < p0)) then
      some (((!v8.1) && ((!v8.2.1) && ((!v8.2.2.1) && ((!v8.2.2.2) && (!(isa_May (Ins.mk p0 (0 : Int) (0 : Int) (0 : Int) (0 : Int)) (5 : Int))))))))
    else
      (remO p5 (64 : Int)).bind fun v13 =>
      let v15 : Int := w64 ((w64 v13) + (1 : Int))
      let v16 : Ins := Ins.mk p0 (0 : Int) (0 : Int) (0 : Int) (0 : Int)
      (
        if v8.1 then
          (remO p1 (8 : Int)).bind fun v17 =>
          some ((Ins.setA v16 (w64 v17)))
        else
          some (v16) : Option Ins).bind fun v17 =>
      (
        if v8.2.1 then
          (remO p2 (8 : Int)).bind fun v18 =>
          some ((Ins.setB v17 (w64 v18)))
        else
          some (v17) : Option Ins).bind fun v18 =>
      (
        if v8.2.2.1 then
          (remO p3 (8 : Int)).bind fun v19 =>
          some ((Ins.setC v18 (w64 v19)))
        else
          some (v18) : Option Ins).bind fun v19 =>
      (
        if v8.2.2.2 then
          (remO p4 (wu32 v15)).bind fun v21 =>
          some ((Ins.setK v19 v21))
        else
          some (v19) : Option Ins).bind fun v20 =>
      if !(isa_May v20 v15) then
        some (false)
      else
        (remO p4 (1000 : Int)).bind fun v33 =>
        some (((!(isa_May (Ins.setA v20 (w64 ((8 : Int) + (w64 p1)))) v15)) && ((!(isa_May (Ins.setB v20 (w64 ((8 : Int) + (w64 p2)))) v15)) && ((!(isa_May (Ins.setC v20 (w64 ((8 : Int) + (w64 p3)))) v15)) && (decide ((isa_May (Ins.setK v20 (wu32 ((wu32 v15) + v33))) v15) = (decide (p0 = (1 : Int)))))))))
noncomputable def F_l02_IsaUses : FnT := ⟨[.int .i64, .int .u8, .int .u8, .int .u8, .int .u32, .int .u8], [.bool], fun x => l02_IsaUses x.1 x.2.1 x.2.2.1 x.2.2.2.1 x.2.2.2.2.1 x.2.2.2.2.2⟩
noncomputable def A_l02_IsaUses : TA :=
 .callp 18 F_l02_awake [] 1 <|
 .prim (.un .not) [.v 6] <|
 .ite (.v 7) (
  .jmp 0 false [.c (.bool false)]) (
  .callp 26 F_isa_Uses [.v 0] 4 <|
  .subp [.bool] (
   .prim (.bin .lss) [.v 0, .c (.int .i64 1)] <|
   .ite (.v 12) (
    .jmp 0 false [.c (.bool true)]) (
    .prim (.bin .gtr) [.v 0, .c (.int .i64 16)] <|
    .jmp 0 false [.v 13])) 1 <|
  .ite (.v 12) (
   .subp [.bool] (
    .prim (.un .not) [.v 8] <|
    .ite (.v 13) (
     .prim (.un .not) [.v 9] <|
     .ite (.v 14) (
      .prim (.un .not) [.v 10] <|
      .ite (.v 15) (
       .prim (.un .not) [.v 11] <|
       .ite (.v 16) (
        .mkS tsIns [.v 0, .c (.int .i64 0), .c (.int .i64 0), .c (.int .i64 0), .c (.int .u32 0)] <|
        .callp 22 F_isa_May [.v 17, .c (.int .i64 5)] 1 <|
        .prim (.un .not) [.v 18] <|
        .jmp 0 false [.v 19]) (
        .jmp 0 false [.c (.bool false)])) (
       .jmp 0 false [.c (.bool false)])) (
      .jmp 0 false [.c (.bool false)])) (
     .jmp 0 false [.c (.bool false)])) 1 <|
   .jmp 0 false [.v 13]) (
   .prim (.bin .rem) [.v 5, .c (.int .u8 64)] <|
   .prim (.conv .i64) [.v 13] <|
   .prim (.bin .add) [.v 14, .c (.int .i64 1)] <|
   .mkS tsIns [.v 0, .c (.int .i64 0), .c (.int .i64 0), .c (.int .i64 0), .c (.int .u32 0)] <|
   .sub0 [tIns] (
    .ite (.v 8) (
     .prim (.bin .rem) [.v 1, .c (.int .u8 8)] <|
     .prim (.conv .i64) [.v 17] <|
     .prim (.setf 1) [.v 16, .v 18] <|
     .jmp 0 false [.v 19]) (
     .jmp 0 false [.v 16])) 1 <|
   .sub0 [tIns] (
    .ite (.v 9) (
     .prim (.bin .rem) [.v 2, .c (.int .u8 8)] <|
     .prim (.conv .i64) [.v 18] <|
     .prim (.setf 2) [.v 17, .v 19] <|
     .jmp 0 false [.v 20]) (
     .jmp 0 false [.v 17])) 1 <|
   .sub0 [tIns] (
    .ite (.v 10) (
     .prim (.bin .rem) [.v 3, .c (.int .u8 8)] <|
     .prim (.conv .i64) [.v 19] <|
     .prim (.setf 3) [.v 18, .v 20] <|
     .jmp 0 false [.v 21]) (
     .jmp 0 false [.v 18])) 1 <|
   .sub0 [tIns] (
    .ite (.v 11) (
     .prim (.conv .u32) [.v 15] <|
     .prim (.bin .rem) [.v 4, .v 20] <|
     .prim (.setf 4) [.v 19, .v 21] <|
     .jmp 0 false [.v 22]) (
     .jmp 0 false [.v 19])) 1 <|
   .callp 22 F_isa_May [.v 20, .v 15] 1 <|
   .prim (.un .not) [.v 21] <|
   .ite (.v 22) (
    .jmp 0 false [.c (.bool false)]) (
    .prim (.conv .i64) [.v 1] <|
    .prim (.bin .add) [.c (.int .i64 8), .v 23] <|
    .prim (.setf 1) [.v 20, .v 24] <|
    .prim (.conv .i64) [.v 2] <|
    .prim (.bin .add) [.c (.int .i64 8), .v 26] <|
    .prim (.setf 2) [.v 20, .v 27] <|
    .prim (.conv .i64) [.v 3] <|
    .prim (.bin .add) [.c (.int .i64 8), .v 29] <|
    .prim (.setf 3) [.v 20, .v 30] <|
    .prim (.conv .u32) [.v 15] <|
    .prim (.bin .rem) [.v 4, .c (.int .u32 1000)] <|
    .prim (.bin .add) [.v 32, .v 33] <|
    .prim (.setf 4) [.v 20, .v 34] <|
    .subp [.bool] (
     .callp 22 F_isa_May [.v 25, .v 15] 1 <|
     .prim (.un .not) [.v 36] <|
     .ite (.v 37) (
      .callp 22 F_isa_May [.v 28, .v 15] 1 <|
      .prim (.un .not) [.v 38] <|
      .ite (.v 39) (
       .callp 22 F_isa_May [.v 31, .v 15] 1 <|
       .prim (.un .not) [.v 40] <|
       .ite (.v 41) (
        .callp 22 F_isa_May [.v 35, .v 15] 1 <|
        .prim (.bin .eql) [.v 0, .c (.int .i64 1)] <|
        .prim (.bin .eql) [.v 42, .v 43] <|
        .jmp 0 false [.v 44]) (
        .jmp 0 false [.c (.bool false)])) (
       .jmp 0 false [.c (.bool false)])) (
      .jmp 0 false [.c (.bool false)])) 1 <|
    .jmp 0 false [.v 36])))
theorem a_l02_IsaUses : treeOf cx 12 8 = some A_l02_IsaUses.erase := by kernel_rfl
theorem k_l02_IsaUses : FnOk cx 12 noC 8 F_l02_IsaUses := fn_ok (t := A_l02_IsaUses) a_l02_IsaUses (fun _ => rfl) (ok_of [(18, F_l02_awake.fn), (26, F_isa_Uses.fn), (22, F_isa_May.fn), (22, F_isa_May.fn), (22, F_isa_May.fn), (22, F_isa_May.fn), (22, F_isa_May.fn), (22, F_isa_May.fn)] (by kernel_rfl) (.cons k_l02_awake (.cons k_isa_Uses (.cons k_isa_May (.cons k_isa_May (.cons k_isa_May (.cons k_isa_May (.cons k_isa_May (.cons k_isa_May .nil))))))))) (fun x => by kernel_rfl)

end Go.Proofs.Ytkgflipalefmfaa
