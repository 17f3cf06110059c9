/- More functions of this cut as functions of plain typed data. Printed by a program of this claim's prover; each is checked here to be what the executor makes of the code. -/
import Derived.Test.YtihchahfnhoapaaD062
set_option linter.unusedVariables false
set_option maxRecDepth 100000
namespace Go.Proofs.Ytihchahfnhoapaa
open Go.SX
/-! 7: backstay/backstaylaw06.PoolRight -/
noncomputable def l06_PoolRight_L1 (x0 : Pool) (s : (Int × (List (List Int)))) : Option ((Int × (List (List Int))) ⊕ (List (List Int))) :=
  if decide (s.1 < (List.length (Pool.Frames x0) : Int)) then
    (getO (Pool.Frames x0) s.1).bind fun v14 =>
    (appO 1 ([] : List Int) v14).bind fun v15 =>
    (appO 24 s.2 ([v15] : List (List Int))).bind fun v17 =>
    some (Sum.inl (w64 (s.1 + (1 : Int)), v17))
  else
    some (Sum.inr (s.2))
noncomputable def l06_PoolRight (p0 : Pool) (p1 : Msg) (p2 : Int) (p3 : Int) : Option Bool :=
  if !l06_awake then
    some (false)
  else
    (r06_Short p0).bind fun v6 =>
    if !v6 then
      some (true)
    else
      (
        loopD (l06_PoolRight_L1 p0) ((0 : Int), ([] : List (List Int))) : Option (List (List Int))).bind fun v8 =>
      (pool_Send (Pool.mk v8) p1).bind fun v10 =>
      (r06_Send p0 p1).bind fun v12 =>
      (
        (r06_Same v10.1 v12.1).bind fun v14 =>
        if !v14 then
          some (true)
        else
          some ((!decide (v10.2 = v12.2))) : Option Bool).bind fun v14 =>
      if v14 then
        some (false)
      else
        (pool_Take (Pool.mk v8) p2).bind fun v16 =>
        (r06_Take p0 p2).bind fun v19 =>
        (
          (r06_Same v16.1 v19.1).bind fun v22 =>
          if !v22 then
            some (true)
          else
            if !(@decide (v16.2.1 = v19.2.1) (Ty.dec tMsg _ _)) then
              some (true)
            else
              some ((!decide (v16.2.2 = v19.2.2))) : Option Bool).bind fun v22 =>
        if v22 then
          some (false)
        else
          (pool_Drop (Pool.mk v8) p2).bind fun v24 =>
          (r06_Drop p0 p2).bind fun v26 =>
          (
            (r06_Same v24.1 v26.1).bind fun v28 =>
            if !v28 then
              some (true)
            else
              some ((!decide (v24.2 = v26.2))) : Option Bool).bind fun v28 =>
          if v28 then
            some (false)
          else
            (pool_Twice (Pool.mk v8) p2).bind fun v30 =>
            (r06_Twice p0 p2).bind fun v32 =>
            (
              (r06_Same v30.1 v32.1).bind fun v34 =>
              if !v34 then
                some (true)
              else
                some ((!decide (v30.2 = v32.2))) : Option Bool).bind fun v34 =>
            if v34 then
              some (false)
            else
              (pool_Spoil (Pool.mk v8) p2 p3).bind fun v36 =>
              (r06_Spoil p0 p2 p3).bind fun v38 =>
              (r06_Right p0).bind fun v40 =>
              (
                (r06_Same v36.1 v38.1).bind fun v42 =>
                if v42 then
                  if decide (v36.2 = v38.2) then
                    (pool_Right (Pool.mk v8)).bind fun v45 =>
                    (r06_Right p0).bind fun v46 =>
                    if decide (v45 = v46) then
                      (pool_Room (Pool.mk v8)).bind fun v49 =>
                      if decide (v49 = (bif v40 then w64 ((64 : Int) - (List.length (Pool.Frames p0) : Int)) else (0 : Int))) then
                        (r06_Same (Pool.mk v8) p0).bind fun v52 =>
                        some (v52)
                      else
                        some (false)
                    else
                      some (false)
                  else
                    some (false)
                else
                  some (false) : Option Bool).bind fun v42 =>
              some (v42)
noncomputable def F_l06_PoolRight : FnT := ⟨[tPool, tMsg, .int .i64, .int .i64], [.bool], fun x => l06_PoolRight x.1 x.2.1 x.2.2.1 x.2.2.2⟩
noncomputable def A_l06_PoolRight : TA :=
 .callp 29 F_l06_awake [] 1 <|
 .prim (.un .not) [.v 4] <|
 .ite (.v 5) (
  .jmp 0 false [.c (.bool false)]) (
  .call 40 F_r06_Short [.v 0] 1 <|
  .prim (.un .not) [.v 6] <|
  .ite (.v 7) (
   .jmp 0 false [.c (.bool true)]) (
   .sub0 [.sl (.sl (.int .u8))] (
    .loop [.int .i64, .sl (.sl (.int .u8))] [.c (.int .i64 0), .c .nil] (
     .prim (.fld 0) [.v 0] <|
     .prim .len [.v 10] <|
     .prim (.bin .lss) [.v 8, .v 11] <|
     .ite (.v 12) (
      .prim (.fld 0) [.v 0] <|
      .prim .get [.v 13, .v 8] <|
      .primH (.app 1) (.sl (.int .u8)) [.c (.sl []), .v 14] <|
      .mkL (.sl (.int .u8)) [.v 15] <|
      .prim (.app 24) [.v 9, .v 16] <|
      .prim (.bin .add) [.v 8, .c (.int .i64 1)] <|
      .jmp 0 true [.v 18, .v 17]) (
      .jmp 1 false [.v 9]))) 1 <|
   .mkS tsPool [.v 8] <|
   .call 30 F_pool_Send [.v 9, .v 1] 2 <|
   .call 41 F_r06_Send [.v 0, .v 1] 2 <|
   .sub0 [.bool] (
    .call 42 F_r06_Same [.v 10, .v 12] 1 <|
    .prim (.un .not) [.v 14] <|
    .ite (.v 15) (
     .jmp 0 false [.c (.bool true)]) (
     .prim (.bin .neq) [.v 11, .v 13] <|
     .jmp 0 false [.v 16])) 1 <|
   .ite (.v 14) (
    .jmp 0 false [.c (.bool false)]) (
    .mkS tsPool [.v 8] <|
    .call 31 F_pool_Take [.v 15, .v 2] 3 <|
    .call 43 F_r06_Take [.v 0, .v 2] 3 <|
    .sub0 [.bool] (
     .call 42 F_r06_Same [.v 16, .v 19] 1 <|
     .prim (.un .not) [.v 22] <|
     .ite (.v 23) (
      .jmp 0 false [.c (.bool true)]) (
      .prim .eqv [.v 17, .v 20] <|
      .prim (.un .not) [.v 24] <|
      .ite (.v 25) (
       .jmp 0 false [.c (.bool true)]) (
       .prim (.bin .neq) [.v 18, .v 21] <|
       .jmp 0 false [.v 26]))) 1 <|
    .ite (.v 22) (
     .jmp 0 false [.c (.bool false)]) (
     .mkS tsPool [.v 8] <|
     .call 44 F_pool_Drop [.v 23, .v 2] 2 <|
     .call 45 F_r06_Drop [.v 0, .v 2] 2 <|
     .sub0 [.bool] (
      .call 42 F_r06_Same [.v 24, .v 26] 1 <|
      .prim (.un .not) [.v 28] <|
      .ite (.v 29) (
       .jmp 0 false [.c (.bool true)]) (
       .prim (.bin .neq) [.v 25, .v 27] <|
       .jmp 0 false [.v 30])) 1 <|
     .ite (.v 28) (
      .jmp 0 false [.c (.bool false)]) (
      .mkS tsPool [.v 8] <|
      .call 46 F_pool_Twice [.v 29, .v 2] 2 <|
      .call 47 F_r06_Twice [.v 0, .v 2] 2 <|
      .sub0 [.bool] (
       .call 42 F_r06_Same [.v 30, .v 32] 1 <|
       .prim (.un .not) [.v 34] <|
       .ite (.v 35) (
        .jmp 0 false [.c (.bool true)]) (
        .prim (.bin .neq) [.v 31, .v 33] <|
        .jmp 0 false [.v 36])) 1 <|
      .ite (.v 34) (
       .jmp 0 false [.c (.bool false)]) (
       .mkS tsPool [.v 8] <|
       .call 48 F_pool_Spoil [.v 35, .v 2, .v 3] 2 <|
       .call 49 F_r06_Spoil [.v 0, .v 2, .v 3] 2 <|
       .call 50 F_r06_Right [.v 0] 1 <|
       .subp [.int .i64] (
        .ite (.v 40) (
         .prim (.fld 0) [.v 0] <|
         .prim .len [.v 41] <|
         .prim (.bin .sub) [.c (.int .i64 64), .v 42] <|
         .jmp 0 false [.v 43]) (
         .jmp 0 false [.c (.int .i64 0)])) 1 <|
       .sub0 [.bool] (
        .call 42 F_r06_Same [.v 36, .v 38] 1 <|
        .ite (.v 42) (
         .prim (.bin .eql) [.v 37, .v 39] <|
         .ite (.v 43) (
          .mkS tsPool [.v 8] <|
          .call 51 F_pool_Right [.v 44] 1 <|
          .call 50 F_r06_Right [.v 0] 1 <|
          .prim (.bin .eql) [.v 45, .v 46] <|
          .ite (.v 47) (
           .mkS tsPool [.v 8] <|
           .call 32 F_pool_Room [.v 48] 1 <|
           .prim (.bin .eql) [.v 49, .v 41] <|
           .ite (.v 50) (
            .mkS tsPool [.v 8] <|
            .call 42 F_r06_Same [.v 51, .v 0] 1 <|
            .jmp 0 false [.v 52]) (
            .jmp 0 false [.c (.bool false)])) (
           .jmp 0 false [.c (.bool false)])) (
          .jmp 0 false [.c (.bool false)])) (
         .jmp 0 false [.c (.bool false)])) 1 <|
       .jmp 0 false [.v 42]))))))
theorem a_l06_PoolRight : treeOf cx 12 7 = some A_l06_PoolRight.erase := by kernel_rfl
theorem k_l06_PoolRight : FnOk cx 12 noC 7 F_l06_PoolRight := fn_ok (t := A_l06_PoolRight) a_l06_PoolRight (fun _ => rfl) (ok_of [(29, F_l06_awake.fn), (40, F_r06_Short), (30, F_pool_Send), (41, F_r06_Send), (42, F_r06_Same), (31, F_pool_Take), (43, F_r06_Take), (42, F_r06_Same), (44, F_pool_Drop), (45, F_r06_Drop), (42, F_r06_Same), (46, F_pool_Twice), (47, F_r06_Twice), (42, F_r06_Same), (48, F_pool_Spoil), (49, F_r06_Spoil), (50, F_r06_Right), (42, F_r06_Same), (51, F_pool_Right), (50, F_r06_Right), (32, F_pool_Room), (42, F_r06_Same)] (by kernel_rfl) (.cons k_l06_awake (.cons k_r06_Short (.cons k_pool_Send (.cons k_r06_Send (.cons k_r06_Same (.cons k_pool_Take (.cons k_r06_Take (.cons k_r06_Same (.cons k_pool_Drop (.cons k_r06_Drop (.cons k_r06_Same (.cons k_pool_Twice (.cons k_r06_Twice (.cons k_r06_Same (.cons k_pool_Spoil (.cons k_r06_Spoil (.cons k_r06_Right (.cons k_r06_Same (.cons k_pool_Right (.cons k_r06_Right (.cons k_pool_Room (.cons k_r06_Same .nil))))))))))))))))))))))) (fun x => by kernel_rfl)

end Go.Proofs.Ytihchahfnhoapaa
