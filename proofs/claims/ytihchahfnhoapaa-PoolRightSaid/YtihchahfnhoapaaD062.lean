/- More functions of this cut as functions of plain typed data. Printed by a program of this claim's prover; each is checked here to be what the executor makes of the code. -/
import Derived.Test.YtihchahfnhoapaaD061
set_option linter.unusedVariables false
set_option maxRecDepth 100000
namespace Go.Proofs.Ytihchahfnhoapaa
open Go.SX
/-! 5: backstay/backstaylaw06.PoolOrder -/
noncomputable def l06_PoolOrder_L1 (x6 : List Msg) (s : (Int × Pool × Pool)) : Option ((Int × Pool × Pool) ⊕ (Pool × Pool) ⊕ Bool) :=
  if decide (s.1 < (List.length x6 : Int)) then
    (pool_Take s.2.1 (0 : Int)).bind fun v12 =>
    (pool_Take s.2.2 (w64 ((w64 ((List.length x6 : Int) - (1 : Int))) - s.1))).bind fun v18 =>
    (
      if !decide (v12.2.2 = (0 : Int)) then
        some (true)
      else
        if !decide (v18.2.2 = (0 : Int)) then
          some (true)
        else
          (idxO (List.length x6 : Int) s.1).bind fun v23 =>
          (getO x6 v23).bind fun v24 =>
          if !(@decide (v12.2.1 = v24) (Ty.dec tMsg _ _)) then
            some (true)
          else
            (idxO (List.length x6 : Int) (w64 ((w64 ((List.length x6 : Int) - (1 : Int))) - s.1))).bind fun v30 =>
            (getO x6 v30).bind fun v31 =>
            some ((!(@decide (v18.2.1 = v31) (Ty.dec tMsg _ _)))) : Option Bool).bind fun v21 =>
    if v21 then
      some (Sum.inr (Sum.inr (false)))
    else
      some (Sum.inl (w64 (s.1 + (1 : Int)), v12.1, v18.1))
  else
    some (Sum.inr (Sum.inl (s.2.1, s.2.2)))
noncomputable def l06_PoolOrder_L2 (x0 : List Msg) (s : (Int × Pool × (List Msg))) : Option ((Int × Pool × (List Msg)) ⊕ (Pool × (List Msg))) :=
  if decide (s.1 < (List.length x0 : Int)) then
    (getO x0 s.1).bind fun v10 =>
    (pool_Send s.2.1 v10).bind fun v11 =>
    (
      if decide (v11.2 = (0 : Int)) then
        (getO x0 s.1).bind fun v14 =>
        (appO 64 s.2.2 ([v14] : List Msg)).bind fun v16 =>
        some (v16)
      else
        some (s.2.2) : Option (List Msg)).bind fun v14 =>
    some (Sum.inl (w64 (s.1 + (1 : Int)), v11.1, v14))
  else
    some (Sum.inr ((s.2.1, s.2.2)))
noncomputable def l06_PoolOrder (p0 : List Msg) : Option Bool :=
  if !l06_awake then
    some (false)
  else
    if decide ((60 : Int) < (List.length p0 : Int)) then
      some (true)
    else
      (
        loopD (l06_PoolOrder_L2 p0) ((0 : Int), (Pool.mk ([] : List (List Int))), ([] : List Msg)) : Option (Pool × (List Msg))).bind fun v5 =>
      orExit (
        loopD (l06_PoolOrder_L1 v5.2) ((0 : Int), v5.1, v5.1) : Option ((Pool × Pool) ⊕ Bool)) fun v7 =>
      (
        if decide ((List.length (Pool.Frames v7.1) : Int) = (0 : Int)) then
          if decide ((List.length (Pool.Frames v7.2) : Int) = (0 : Int)) then
            (pool_Room v5.1).bind fun v15 =>
            some ((decide (v15 = (w64 ((64 : Int) - (List.length v5.2 : Int))))))
          else
            some (false)
        else
          some (false) : Option Bool).bind fun v9 =>
      some (v9)
noncomputable def F_l06_PoolOrder : FnT := ⟨[.sl tMsg], [.bool], fun x => l06_PoolOrder x⟩
noncomputable def A_l06_PoolOrder : TA :=
 .callp 29 F_l06_awake [] 1 <|
 .prim (.un .not) [.v 1] <|
 .ite (.v 2) (
  .jmp 0 false [.c (.bool false)]) (
  .prim .len [.v 0] <|
  .prim (.bin .gtr) [.v 3, .c (.int .i64 60)] <|
  .ite (.v 4) (
   .jmp 0 false [.c (.bool true)]) (
   .sub0 [tPool, .sl tMsg] (
    .loop [.int .i64, tPool, .sl tMsg] [.c (.int .i64 0), .c (.agg [.nil]), .c .nil] (
     .prim .len [.v 0] <|
     .prim (.bin .lss) [.v 5, .v 8] <|
     .ite (.v 9) (
      .prim .get [.v 0, .v 5] <|
      .call 30 F_pool_Send [.v 6, .v 10] 2 <|
      .prim (.bin .eql) [.v 12, .c (.int .i64 0)] <|
      .sub0 [.sl tMsg] (
       .ite (.v 13) (
        .prim .get [.v 0, .v 5] <|
        .mkL tMsg [.v 14] <|
        .prim (.app 64) [.v 7, .v 15] <|
        .jmp 0 false [.v 16]) (
        .jmp 0 false [.v 7])) 1 <|
      .prim (.bin .add) [.v 5, .c (.int .i64 1)] <|
      .jmp 0 true [.v 15, .v 11, .v 14]) (
      .jmp 1 false [.v 6, .v 7]))) 2 <|
   .sub1 [tPool, tPool] (
    .loop [.int .i64, tPool, tPool] [.c (.int .i64 0), .v 5, .v 5] (
     .prim .len [.v 6] <|
     .prim (.bin .lss) [.v 7, .v 10] <|
     .ite (.v 11) (
      .call 31 F_pool_Take [.v 8, .c (.int .i64 0)] 3 <|
      .prim .len [.v 6] <|
      .prim (.bin .sub) [.v 15, .c (.int .i64 1)] <|
      .prim (.bin .sub) [.v 16, .v 7] <|
      .call 31 F_pool_Take [.v 9, .v 17] 3 <|
      .sub0 [.bool] (
       .prim (.bin .neq) [.v 14, .c (.int .i64 0)] <|
       .ite (.v 21) (
        .jmp 0 false [.c (.bool true)]) (
        .prim (.bin .neq) [.v 20, .c (.int .i64 0)] <|
        .ite (.v 22) (
         .jmp 0 false [.c (.bool true)]) (
         .prim .idx [.v 6, .v 7] <|
         .prim .get [.v 6, .v 23] <|
         .prim .eqv [.v 13, .v 24] <|
         .prim (.un .not) [.v 25] <|
         .ite (.v 26) (
          .jmp 0 false [.c (.bool true)]) (
          .prim .len [.v 6] <|
          .prim (.bin .sub) [.v 27, .c (.int .i64 1)] <|
          .prim (.bin .sub) [.v 28, .v 7] <|
          .prim .idx [.v 6, .v 29] <|
          .prim .get [.v 6, .v 30] <|
          .prim .eqv [.v 19, .v 31] <|
          .prim (.un .not) [.v 32] <|
          .jmp 0 false [.v 33])))) 1 <|
      .ite (.v 21) (
       .jmp 2 false [.c (.bool false)]) (
       .prim (.bin .add) [.v 7, .c (.int .i64 1)] <|
       .jmp 0 true [.v 22, .v 12, .v 18])) (
      .jmp 1 false [.v 8, .v 9]))) 2 <|
   .sub0 [.bool] (
    .prim (.fld 0) [.v 7] <|
    .prim .len [.v 9] <|
    .prim (.bin .eql) [.v 10, .c (.int .i64 0)] <|
    .ite (.v 11) (
     .prim (.fld 0) [.v 8] <|
     .prim .len [.v 12] <|
     .prim (.bin .eql) [.v 13, .c (.int .i64 0)] <|
     .ite (.v 14) (
      .call 32 F_pool_Room [.v 5] 1 <|
      .prim .len [.v 6] <|
      .prim (.bin .sub) [.c (.int .i64 64), .v 16] <|
      .prim (.bin .eql) [.v 15, .v 17] <|
      .jmp 0 false [.v 18]) (
      .jmp 0 false [.c (.bool false)])) (
     .jmp 0 false [.c (.bool false)])) 1 <|
   .jmp 0 false [.v 9]))
theorem a_l06_PoolOrder : treeOf cx 12 5 = some A_l06_PoolOrder.erase := by kernel_rfl
theorem k_l06_PoolOrder : FnOk cx 12 noC 5 F_l06_PoolOrder := fn_ok (t := A_l06_PoolOrder) a_l06_PoolOrder (fun _ => rfl) (ok_of [(29, F_l06_awake.fn), (30, F_pool_Send), (31, F_pool_Take), (31, F_pool_Take), (32, F_pool_Room)] (by kernel_rfl) (.cons k_l06_awake (.cons k_pool_Send (.cons k_pool_Take (.cons k_pool_Take (.cons k_pool_Room .nil)))))) (fun x => by kernel_rfl)

end Go.Proofs.Ytihchahfnhoapaa
