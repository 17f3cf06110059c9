/- More functions of this cut as functions of plain typed data. Printed by a program of this claim's prover; each is checked here to be what the executor makes of the code. -/
import Derived.Test.YtflnpiknckdmfaaD031
set_option linter.unusedVariables false
set_option maxRecDepth 100000
namespace Go.Proofs.Ytflnpiknckdmfaa
open Go.SX
/-! 11: backstay/backstaylaw03.CoreRight -/
noncomputable def l03_CoreRight (p0 : List Ins) (p1 : Core) (p2 : Int) (p3 : Int) : Option Bool :=
  if !l03_awake then
    some (false)
  else
    if decide ((80 : Int) < (List.length p0 : Int)) then
      some (true)
    else
      (
        (core_Right p0 p1).bind fun v8 =>
        (r03_Right p0 p1).bind fun v9 =>
        if decide (v8 = v9) then
          (core_Wants p0 p1 p2).bind fun v11 =>
          (r03_Wants p0 p1 p2).bind fun v12 =>
          if @decide (v11 = v12) (Ty.dec tWant _ _) then
            (core_Done p0 p1 p3).bind fun v14 =>
            (r03_Done p0 p1 p3).bind fun v15 =>
            some ((@decide (v14 = v15) (Ty.dec tCore _ _)))
          else
            some (false)
        else
          some (false) : Option Bool).bind fun v8 =>
      some (v8)
noncomputable def F_l03_CoreRight : FnT := ⟨[.sl tIns, tCore, .int .i64, .int .u32], [.bool], fun x => l03_CoreRight x.1 x.2.1 x.2.2.1 x.2.2.2⟩
noncomputable def A_l03_CoreRight : TA :=
 .callp 54 F_l03_awake [] 1 <|
 .prim (.un .not) [.v 4] <|
 .ite (.v 5) (
  .jmp 0 false [.c (.bool false)]) (
  .prim .len [.v 0] <|
  .prim (.bin .gtr) [.v 6, .c (.int .i64 80)] <|
  .ite (.v 7) (
   .jmp 0 false [.c (.bool true)]) (
   .sub0 [.bool] (
    .call 55 F_core_Right [.v 0, .v 1] 1 <|
    .call 56 F_r03_Right [.v 0, .v 1] 1 <|
    .prim (.bin .eql) [.v 8, .v 9] <|
    .ite (.v 10) (
     .call 57 F_core_Wants [.v 0, .v 1, .v 2] 1 <|
     .call 58 F_r03_Wants [.v 0, .v 1, .v 2] 1 <|
     .prim .eqv [.v 11, .v 12] <|
     .ite (.v 13) (
      .call 59 F_core_Done [.v 0, .v 1, .v 3] 1 <|
      .call 60 F_r03_Done [.v 0, .v 1, .v 3] 1 <|
      .prim .eqv [.v 14, .v 15] <|
      .jmp 0 false [.v 16]) (
      .jmp 0 false [.c (.bool false)])) (
     .jmp 0 false [.c (.bool false)])) 1 <|
   .jmp 0 false [.v 8]))
theorem a_l03_CoreRight : treeOf cx 12 11 = some A_l03_CoreRight.erase := by kernel_rfl
theorem k_l03_CoreRight : FnOk cx 12 noC 11 F_l03_CoreRight := fn_ok (t := A_l03_CoreRight) a_l03_CoreRight (fun _ => rfl) (ok_of [(54, F_l03_awake.fn), (55, F_core_Right), (56, F_r03_Right), (57, F_core_Wants), (58, F_r03_Wants), (59, F_core_Done), (60, F_r03_Done)] (by kernel_rfl) (.cons k_l03_awake (.cons k_core_Right (.cons k_r03_Right (.cons k_core_Wants (.cons k_r03_Wants (.cons k_core_Done (.cons k_r03_Done .nil)))))))) (fun x => by kernel_rfl)

end Go.Proofs.Ytflnpiknckdmfaa
