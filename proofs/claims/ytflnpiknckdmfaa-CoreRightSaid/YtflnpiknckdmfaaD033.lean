/- More functions of this cut as functions of plain typed data. Printed by a program of this claim's prover; each is checked here to be what the executor makes of the code. -/
import Derived.Test.YtflnpiknckdmfaaD032
set_option linter.unusedVariables false
set_option maxRecDepth 100000
namespace Go.Proofs.Ytflnpiknckdmfaa
open Go.SX
/-! 12: backstay/backstaylaw03.CoreOrder -/
noncomputable def l03_CoreOrder_L1 (x12 : Core) (x16 : Core) (s : (Int × Int)) : Option ((Int × Int) ⊕ Int) :=
  if decide (s.2 < (8 : Int)) then
    (idxO (8 : Int) s.2).bind fun v21 =>
    (getO (Core.Regs x12) v21).bind fun v23 =>
    (idxO (8 : Int) s.2).bind fun v24 =>
    (getO (Core.Regs x16) v24).bind fun v26 =>
    some (Sum.inl (bif !decide (v23 = v26) then w64 (s.1 + (1 : Int)) else s.1, w64 (s.2 + (1 : Int))))
  else
    some (Sum.inr (s.1))
noncomputable def l03_CoreOrder_L2 (x0 : List Ins) (x2 : List Int) (x10 : Int) (s : (Int × Core)) : Option ((Int × Core) ⊕ Unit ⊕ Bool) :=
  if (decide (s.1 < (List.length x2 : Int))) && (decide (s.1 < (200 : Int))) then
    (core_Wants x0 s.2 x10).bind fun v14 =>
    (getO x2 s.1).bind fun v15 =>
    (core_Done x0 s.2 v15).bind fun v16 =>
    (
      (core_Right x0 v16).bind fun v17 =>
      if !v17 then
        some (true)
      else
        if decide ((Want.At v14) < (0 : Int)) then
          some (true)
        else
          if decide (x10 ≤ (Want.At v14)) then
            some (true)
          else
            if decide ((Want.Kind v14) < (0 : Int)) then
              some (true)
            else
              if decide ((5 : Int) < (Want.Kind v14)) then
                some (true)
              else
                if Core.Halted s.2 then
                  some ((!(@decide (v16 = s.2) (Ty.dec tCore _ _))))
                else
                  some (false) : Option Bool).bind fun v17 =>
    if v17 then
      some (Sum.inr (Sum.inr (false)))
    else
      (
        loopD (l03_CoreOrder_L1 s.2 v16) ((0 : Int), (0 : Int)) : Option Int).bind fun v18 =>
      (
        if decide ((1 : Int) < v18) then
          some (true)
        else
          if decide ((Want.Kind v14) = (5 : Int)) then
            if decide ((0 : Int) < v18) then
              some (true)
            else
              if !(Core.Halted v16) then
                some (true)
              else
                (core_Wants x0 v16 x10).bind fun v25 =>
                some ((!(@decide (v25 = v14) (Ty.dec tWant _ _))))
          else
            some (false) : Option Bool).bind fun v19 =>
      if v19 then
        some (Sum.inr (Sum.inr (false)))
      else
        (
          if decide ((Want.Kind v14) = (2 : Int)) then
            if decide ((0 : Int) < v18) then
              some (true)
            else
              (core_Done x0 s.2 (0 : Int)).bind fun v23 =>
              some ((!(@decide (v16 = v23) (Ty.dec tCore _ _))))
          else
            if decide ((Want.Kind v14) = (4 : Int)) then
              if decide ((0 : Int) < v18) then
                some (true)
              else
                (core_Done x0 s.2 (0 : Int)).bind fun v25 =>
                some ((!(@decide (v16 = v25) (Ty.dec tCore _ _))))
            else
              some (false) : Option Bool).bind fun v20 =>
        if v20 then
          some (Sum.inr (Sum.inr (false)))
        else
          some (Sum.inl (w64 (s.1 + (1 : Int)), v16))
  else
    some (Sum.inr (Sum.inl ()))
noncomputable def l03_CoreOrder (p0 : List Ins) (p1 : List Int) (p2 : List Int) (p3 : Int) : Option Bool :=
  if !l03_awake then
    some (false)
  else
    let v6 : Core := Core.mk p1 (0 : Int) false
    (
      if decide ((80 : Int) < (List.length p0 : Int)) then
        some (true)
      else
        (core_Right p0 v6).bind fun v9 =>
        some ((!v9)) : Option Bool).bind fun v7 =>
    if v7 then
      some (true)
    else
      (remO p3 (64 : Int)).bind fun v8 =>
      let v10 : Int := w64 ((w64 v8) + (1 : Int))
      orExit (
        loopD (l03_CoreOrder_L2 p0 p2 v10) ((0 : Int), v6) : Option (Unit ⊕ Bool)) fun v11 =>
      some (true)
noncomputable def F_l03_CoreOrder : FnT := ⟨[.sl tIns, .arr 8 (.int .u32), .sl (.int .u32), .int .u8], [.bool], fun x => l03_CoreOrder x.1 x.2.1 x.2.2.1 x.2.2.2⟩
noncomputable def A_l03_CoreOrder : TA :=
 .callp 54 F_l03_awake [] 1 <|
 .prim (.un .not) [.v 4] <|
 .ite (.v 5) (
  .jmp 0 false [.c (.bool false)]) (
  .mkS tsCore [.v 1, .c (.int .i64 0), .c (.bool false)] <|
  .sub0 [.bool] (
   .prim .len [.v 0] <|
   .prim (.bin .gtr) [.v 7, .c (.int .i64 80)] <|
   .ite (.v 8) (
    .jmp 0 false [.c (.bool true)]) (
    .call 55 F_core_Right [.v 0, .v 6] 1 <|
    .prim (.un .not) [.v 9] <|
    .jmp 0 false [.v 10])) 1 <|
  .ite (.v 7) (
   .jmp 0 false [.c (.bool true)]) (
   .prim (.bin .rem) [.v 3, .c (.int .u8 64)] <|
   .prim (.conv .i64) [.v 8] <|
   .prim (.bin .add) [.v 9, .c (.int .i64 1)] <|
   .sub1 [] (
    .loop [.int .i64, tCore] [.c (.int .i64 0), .v 6] (
     .subp [.bool] (
      .prim .len [.v 2] <|
      .prim (.bin .lss) [.v 11, .v 13] <|
      .ite (.v 14) (
       .prim (.bin .lss) [.v 11, .c (.int .i64 200)] <|
       .jmp 0 false [.v 15]) (
       .jmp 0 false [.c (.bool false)])) 1 <|
     .ite (.v 13) (
      .call 57 F_core_Wants [.v 0, .v 12, .v 10] 1 <|
      .prim .get [.v 2, .v 11] <|
      .call 59 F_core_Done [.v 0, .v 12, .v 15] 1 <|
      .sub0 [.bool] (
       .call 55 F_core_Right [.v 0, .v 16] 1 <|
       .prim (.un .not) [.v 17] <|
       .ite (.v 18) (
        .jmp 0 false [.c (.bool true)]) (
        .prim (.fld 1) [.v 14] <|
        .prim (.bin .lss) [.v 19, .c (.int .i64 0)] <|
        .ite (.v 20) (
         .jmp 0 false [.c (.bool true)]) (
         .prim (.fld 1) [.v 14] <|
         .prim (.bin .geq) [.v 21, .v 10] <|
         .ite (.v 22) (
          .jmp 0 false [.c (.bool true)]) (
          .prim (.fld 0) [.v 14] <|
          .prim (.bin .lss) [.v 23, .c (.int .i64 0)] <|
          .ite (.v 24) (
           .jmp 0 false [.c (.bool true)]) (
           .prim (.fld 0) [.v 14] <|
           .prim (.bin .gtr) [.v 25, .c (.int .i64 5)] <|
           .ite (.v 26) (
            .jmp 0 false [.c (.bool true)]) (
            .prim (.fld 2) [.v 12] <|
            .ite (.v 27) (
             .prim .eqv [.v 16, .v 12] <|
             .prim (.un .not) [.v 28] <|
             .jmp 0 false [.v 29]) (
             .jmp 0 false [.c (.bool false)]))))))) 1 <|
      .ite (.v 17) (
       .jmp 2 false [.c (.bool false)]) (
       .sub0 [.int .i64] (
        .loop [.int .i64, .int .i64] [.c (.int .i64 0), .c (.int .i64 0)] (
         .prim (.bin .lss) [.v 19, .c (.int .i64 8)] <|
         .ite (.v 20) (
          .prim (.idxn 8) [.v 19] <|
          .prim (.fld 0) [.v 12] <|
          .prim .get [.v 22, .v 21] <|
          .prim (.idxn 8) [.v 19] <|
          .prim (.fld 0) [.v 16] <|
          .prim .get [.v 25, .v 24] <|
          .prim (.bin .neq) [.v 23, .v 26] <|
          .subp [.int .i64] (
           .ite (.v 27) (
            .prim (.bin .add) [.v 18, .c (.int .i64 1)] <|
            .jmp 0 false [.v 28]) (
            .jmp 0 false [.v 18])) 1 <|
          .prim (.bin .add) [.v 19, .c (.int .i64 1)] <|
          .jmp 0 true [.v 28, .v 29]) (
          .jmp 1 false [.v 18]))) 1 <|
       .sub0 [.bool] (
        .prim (.bin .gtr) [.v 18, .c (.int .i64 1)] <|
        .ite (.v 19) (
         .jmp 0 false [.c (.bool true)]) (
         .prim (.fld 0) [.v 14] <|
         .prim (.bin .eql) [.v 20, .c (.int .i64 5)] <|
         .ite (.v 21) (
          .prim (.bin .gtr) [.v 18, .c (.int .i64 0)] <|
          .ite (.v 22) (
           .jmp 0 false [.c (.bool true)]) (
           .prim (.fld 2) [.v 16] <|
           .prim (.un .not) [.v 23] <|
           .ite (.v 24) (
            .jmp 0 false [.c (.bool true)]) (
            .call 57 F_core_Wants [.v 0, .v 16, .v 10] 1 <|
            .prim .eqv [.v 25, .v 14] <|
            .prim (.un .not) [.v 26] <|
            .jmp 0 false [.v 27]))) (
          .jmp 0 false [.c (.bool false)]))) 1 <|
       .ite (.v 19) (
        .jmp 2 false [.c (.bool false)]) (
        .sub0 [.bool] (
         .prim (.fld 0) [.v 14] <|
         .prim (.bin .eql) [.v 20, .c (.int .i64 2)] <|
         .ite (.v 21) (
          .prim (.bin .gtr) [.v 18, .c (.int .i64 0)] <|
          .ite (.v 22) (
           .jmp 0 false [.c (.bool true)]) (
           .call 59 F_core_Done [.v 0, .v 12, .c (.int .u32 0)] 1 <|
           .prim .eqv [.v 16, .v 23] <|
           .prim (.un .not) [.v 24] <|
           .jmp 0 false [.v 25])) (
          .prim (.fld 0) [.v 14] <|
          .prim (.bin .eql) [.v 22, .c (.int .i64 4)] <|
          .ite (.v 23) (
           .prim (.bin .gtr) [.v 18, .c (.int .i64 0)] <|
           .ite (.v 24) (
            .jmp 0 false [.c (.bool true)]) (
            .call 59 F_core_Done [.v 0, .v 12, .c (.int .u32 0)] 1 <|
            .prim .eqv [.v 16, .v 25] <|
            .prim (.un .not) [.v 26] <|
            .jmp 0 false [.v 27])) (
           .jmp 0 false [.c (.bool false)]))) 1 <|
        .ite (.v 20) (
         .jmp 2 false [.c (.bool false)]) (
         .prim (.bin .add) [.v 11, .c (.int .i64 1)] <|
         .jmp 0 true [.v 21, .v 16])))) (
      .jmp 1 false []))) 0 <|
   .jmp 0 false [.c (.bool true)]))
theorem a_l03_CoreOrder : treeOf cx 12 12 = some A_l03_CoreOrder.erase := by kernel_rfl
theorem k_l03_CoreOrder : FnOk cx 12 noC 12 F_l03_CoreOrder := fn_ok (t := A_l03_CoreOrder) a_l03_CoreOrder (fun _ => rfl) (ok_of [(54, F_l03_awake.fn), (55, F_core_Right), (57, F_core_Wants), (59, F_core_Done), (55, F_core_Right), (57, F_core_Wants), (59, F_core_Done), (59, F_core_Done)] (by kernel_rfl) (.cons k_l03_awake (.cons k_core_Right (.cons k_core_Wants (.cons k_core_Done (.cons k_core_Right (.cons k_core_Wants (.cons k_core_Done (.cons k_core_Done .nil))))))))) (fun x => by kernel_rfl)

end Go.Proofs.Ytflnpiknckdmfaa
