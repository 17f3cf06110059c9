/- More functions of this cut as functions of plain typed data. Printed by a program of this claim's prover; each is checked here to be what the executor makes of the code. -/
import Derived.Test.YtflnpiknckdmfaaD071
set_option linter.unusedVariables false
set_option maxRecDepth 100000
namespace Go.Proofs.Ytflnpiknckdmfaa
open Go.SX
/-! 5: backstay/backstaylaw07.ParityRight -/
noncomputable def l07_ParityRight_L1 (x4 : Int) (x5 : Int) (s : (Int × (List (List Int)))) : Option ((Int × (List (List Int))) ⊕ (List (List Int))) :=
  if decide (s.1 < x4) then
    (repO (0 : Int) 4 x5 x5).bind fun v45 =>
    (appO 24 s.2 ([v45] : List (List Int))).bind fun v47 =>
    some (Sum.inl (w64 (s.1 + (1 : Int)), v47))
  else
    some (Sum.inr (s.2))
noncomputable def l07_ParityRight_L2 (x0 : Banks) (s : (Int × (List (List Int)))) : Option ((Int × (List (List Int))) ⊕ (List (List Int))) :=
  if decide (s.1 < (List.length (Banks.Rows x0) : Int)) then
    (getO (Banks.Rows x0) s.1).bind fun v21 =>
    (appO 4 ([] : List Int) v21).bind fun v22 =>
    (appO 24 s.2 ([v22] : List (List Int))).bind fun v24 =>
    some (Sum.inl (w64 (s.1 + (1 : Int)), v24))
  else
    some (Sum.inr (s.2))
noncomputable def l07_ParityRight (p0 : Banks) (p1 : Int) (p2 : Int) (p3 : Int) (p4 : Int) (p5 : Int) : Option Bool :=
  if !l07_awake then
    some (false)
  else
    (r07_Short p0).bind fun v8 =>
    if !v8 then
      some (true)
    else
      (appO 4 ([] : List Int) (Banks.Par p0)).bind fun v11 =>
      (
        loopD (l07_ParityRight_L2 p0) ((0 : Int), ([] : List (List Int))) : Option (List (List Int))).bind fun v15 =>
      (parity_Read (Banks.mk v15 v11 (Banks.Lost p0)) p1 p2).bind fun v17 =>
      (r07_Read p0 p1 p2).bind fun v19 =>
      if (!decide (v17.1 = v19.1)) || (!decide (v17.2 = v19.2)) then
        some (false)
      else
        (parity_Write (Banks.mk v15 v11 (Banks.Lost p0)) p1 p2 p3).bind fun v23 =>
        (r07_Write p0 p1 p2 p3).bind fun v25 =>
        (
          (r07_Same v23.1 v25.1).bind fun v27 =>
          if !v27 then
            some (true)
          else
            some ((!decide (v23.2 = v25.2))) : Option Bool).bind fun v27 =>
        if v27 then
          some (false)
        else
          (parity_Lose (Banks.mk v15 v11 (Banks.Lost p0)) p1).bind fun v29 =>
          (r07_Lose p0 p1).bind fun v31 =>
          (
            (r07_Same v29.1 v31.1).bind fun v33 =>
            if !v33 then
              some (true)
            else
              some ((!decide (v29.2 = v31.2))) : Option Bool).bind fun v33 =>
          if v33 then
            some (false)
          else
            (parity_Rebuild (Banks.mk v15 v11 (Banks.Lost p0))).bind fun v35 =>
            (r07_Rebuild p0).bind fun v37 =>
            (
              (r07_Same v35.1 v37.1).bind fun v39 =>
              if !v39 then
                some (true)
              else
                some ((!decide (v35.2 = v37.2))) : Option Bool).bind fun v39 =>
            if v39 then
              some (false)
            else
              (
                if (decide (p4 < (1 : Int))) || ((decide ((8 : Int) < p4)) || ((decide (p5 < (1 : Int))) || (decide ((64 : Int) < p5)))) then
                  some (((1 : Int), ([] : List (List Int)), ([] : List Int)))
                else
                  (repO (0 : Int) 4 p5 p5).bind fun v41 =>
                  (
                    loopD (l07_ParityRight_L1 p4 p5) ((0 : Int), ([] : List (List Int))) : Option (List (List Int))).bind fun v42 =>
                  some (((0 : Int), v42, v41)) : Option (Int × (List (List Int)) × (List Int))).bind fun v40 =>
              (r07_New p4 p5).bind fun v43 =>
              (
                (r07_Same (Banks.mk v40.2.1 v40.2.2 (0 : Int)) v43.1).bind fun v46 =>
                if v46 then
                  if decide (v40.1 = v43.2) then
                    (parity_Right (Banks.mk v15 v11 (Banks.Lost p0))).bind fun v49 =>
                    (r07_Right p0).bind fun v50 =>
                    if decide (v49 = v50) then
                      (r07_Same (Banks.mk v15 v11 (Banks.Lost p0)) p0).bind fun v53 =>
                      some (v53)
                    else
                      some (false)
                  else
                    some (false)
                else
                  some (false) : Option Bool).bind fun v45 =>
              some (v45)
noncomputable def F_l07_ParityRight : FnT := ⟨[tBanks, .int .i64, .int .i64, .int .u32, .int .i64, .int .i64], [.bool], fun x => l07_ParityRight x.1 x.2.1 x.2.2.1 x.2.2.2.1 x.2.2.2.2.1 x.2.2.2.2.2⟩
noncomputable def A_l07_ParityRight : TA :=
 .callp 25 F_l07_awake [] 1 <|
 .prim (.un .not) [.v 6] <|
 .ite (.v 7) (
  .jmp 0 false [.c (.bool false)]) (
  .call 26 F_r07_Short [.v 0] 1 <|
  .prim (.un .not) [.v 8] <|
  .ite (.v 9) (
   .jmp 0 false [.c (.bool true)]) (
   .prim (.fld 1) [.v 0] <|
   .primH (.app 4) (.sl (.int .u32)) [.c (.sl []), .v 10] <|
   .prim (.fld 0) [.v 0] <|
   .prim (.fld 1) [.v 0] <|
   .prim (.fld 2) [.v 0] <|
   .sub0 [.sl (.sl (.int .u32))] (
    .loop [.int .i64, .sl (.sl (.int .u32))] [.c (.int .i64 0), .c .nil] (
     .prim (.fld 0) [.v 0] <|
     .prim .len [.v 17] <|
     .prim (.bin .lss) [.v 15, .v 18] <|
     .ite (.v 19) (
      .prim (.fld 0) [.v 0] <|
      .prim .get [.v 20, .v 15] <|
      .primH (.app 4) (.sl (.int .u32)) [.c (.sl []), .v 21] <|
      .mkL (.sl (.int .u32)) [.v 22] <|
      .prim (.app 24) [.v 16, .v 23] <|
      .prim (.bin .add) [.v 15, .c (.int .i64 1)] <|
      .jmp 0 true [.v 25, .v 24]) (
      .jmp 1 false [.v 16]))) 1 <|
   .mkS tsBanks [.v 15, .v 11, .v 14] <|
   .call 27 F_parity_Read [.v 16, .v 1, .v 2] 2 <|
   .call 28 F_r07_Read [.v 0, .v 1, .v 2] 2 <|
   .subp [.bool] (
    .prim (.bin .neq) [.v 17, .v 19] <|
    .ite (.v 21) (
     .jmp 0 false [.c (.bool true)]) (
     .prim (.bin .neq) [.v 18, .v 20] <|
     .jmp 0 false [.v 22])) 1 <|
   .ite (.v 21) (
    .jmp 0 false [.c (.bool false)]) (
    .mkS tsBanks [.v 15, .v 11, .v 14] <|
    .call 29 F_parity_Write [.v 22, .v 1, .v 2, .v 3] 2 <|
    .call 30 F_r07_Write [.v 0, .v 1, .v 2, .v 3] 2 <|
    .sub0 [.bool] (
     .call 31 F_r07_Same [.v 23, .v 25] 1 <|
     .prim (.un .not) [.v 27] <|
     .ite (.v 28) (
      .jmp 0 false [.c (.bool true)]) (
      .prim (.bin .neq) [.v 24, .v 26] <|
      .jmp 0 false [.v 29])) 1 <|
    .ite (.v 27) (
     .jmp 0 false [.c (.bool false)]) (
     .mkS tsBanks [.v 15, .v 11, .v 14] <|
     .call 32 F_parity_Lose [.v 28, .v 1] 2 <|
     .call 33 F_r07_Lose [.v 0, .v 1] 2 <|
     .sub0 [.bool] (
      .call 31 F_r07_Same [.v 29, .v 31] 1 <|
      .prim (.un .not) [.v 33] <|
      .ite (.v 34) (
       .jmp 0 false [.c (.bool true)]) (
       .prim (.bin .neq) [.v 30, .v 32] <|
       .jmp 0 false [.v 35])) 1 <|
     .ite (.v 33) (
      .jmp 0 false [.c (.bool false)]) (
      .mkS tsBanks [.v 15, .v 11, .v 14] <|
      .call 34 F_parity_Rebuild [.v 34] 2 <|
      .call 35 F_r07_Rebuild [.v 0] 2 <|
      .sub0 [.bool] (
       .call 31 F_r07_Same [.v 35, .v 37] 1 <|
       .prim (.un .not) [.v 39] <|
       .ite (.v 40) (
        .jmp 0 false [.c (.bool true)]) (
        .prim (.bin .neq) [.v 36, .v 38] <|
        .jmp 0 false [.v 41])) 1 <|
      .ite (.v 39) (
       .jmp 0 false [.c (.bool false)]) (
       .sub0 [.int .i64, .sl (.sl (.int .u32)), .sl (.int .u32)] (
        .subp [.bool] (
         .prim (.bin .lss) [.v 4, .c (.int .i64 1)] <|
         .ite (.v 40) (
          .jmp 0 false [.c (.bool true)]) (
          .prim (.bin .gtr) [.v 4, .c (.int .i64 8)] <|
          .ite (.v 41) (
           .jmp 0 false [.c (.bool true)]) (
           .prim (.bin .lss) [.v 5, .c (.int .i64 1)] <|
           .ite (.v 42) (
            .jmp 0 false [.c (.bool true)]) (
            .prim (.bin .gtr) [.v 5, .c (.int .i64 64)] <|
            .jmp 0 false [.v 43])))) 1 <|
        .ite (.v 40) (
         .jmp 0 false [.c (.int .i64 1), .c .nil, .c .nil]) (
         .primH (.rep (.int .u32 0) 4) (.sl (.int .u32)) [.v 5, .v 5] <|
         .sub0 [.sl (.sl (.int .u32))] (
          .loop [.int .i64, .sl (.sl (.int .u32))] [.c (.int .i64 0), .c .nil] (
           .prim (.bin .lss) [.v 42, .v 4] <|
           .ite (.v 44) (
            .primH (.rep (.int .u32 0) 4) (.sl (.int .u32)) [.v 5, .v 5] <|
            .mkL (.sl (.int .u32)) [.v 45] <|
            .prim (.app 24) [.v 43, .v 46] <|
            .prim (.bin .add) [.v 42, .c (.int .i64 1)] <|
            .jmp 0 true [.v 48, .v 47]) (
            .jmp 1 false [.v 43]))) 1 <|
         .jmp 0 false [.c (.int .i64 0), .v 42, .v 41])) 3 <|
       .call 37 F_r07_New [.v 4, .v 5] 2 <|
       .sub0 [.bool] (
        .mkS tsBanks [.v 41, .v 42, .c (.int .i64 0)] <|
        .call 31 F_r07_Same [.v 45, .v 43] 1 <|
        .ite (.v 46) (
         .prim (.bin .eql) [.v 40, .v 44] <|
         .ite (.v 47) (
          .mkS tsBanks [.v 15, .v 11, .v 14] <|
          .call 38 F_parity_Right [.v 48] 1 <|
          .call 39 F_r07_Right [.v 0] 1 <|
          .prim (.bin .eql) [.v 49, .v 50] <|
          .ite (.v 51) (
           .mkS tsBanks [.v 15, .v 11, .v 14] <|
           .call 31 F_r07_Same [.v 52, .v 0] 1 <|
           .jmp 0 false [.v 53]) (
           .jmp 0 false [.c (.bool false)])) (
          .jmp 0 false [.c (.bool false)])) (
         .jmp 0 false [.c (.bool false)])) 1 <|
       .jmp 0 false [.v 45]))))))
theorem a_l07_ParityRight : treeOf cx 12 5 = some A_l07_ParityRight.erase := by kernel_rfl
theorem k_l07_ParityRight : FnOk cx 12 noC 5 F_l07_ParityRight := fn_ok (t := A_l07_ParityRight) a_l07_ParityRight (fun _ => rfl) (ok_of [(25, F_l07_awake.fn), (26, F_r07_Short), (27, F_parity_Read), (28, F_r07_Read), (29, F_parity_Write), (30, F_r07_Write), (31, F_r07_Same), (32, F_parity_Lose), (33, F_r07_Lose), (31, F_r07_Same), (34, F_parity_Rebuild), (35, F_r07_Rebuild), (31, F_r07_Same), (37, F_r07_New), (31, F_r07_Same), (38, F_parity_Right), (39, F_r07_Right), (31, F_r07_Same)] (by kernel_rfl) (.cons k_l07_awake (.cons k_r07_Short (.cons k_parity_Read (.cons k_r07_Read (.cons k_parity_Write (.cons k_r07_Write (.cons k_r07_Same (.cons k_parity_Lose (.cons k_r07_Lose (.cons k_r07_Same (.cons k_parity_Rebuild (.cons k_r07_Rebuild (.cons k_r07_Same (.cons k_r07_New (.cons k_r07_Same (.cons k_parity_Right (.cons k_r07_Right (.cons k_r07_Same .nil))))))))))))))))))) (fun x => by kernel_rfl)

end Go.Proofs.Ytflnpiknckdmfaa
