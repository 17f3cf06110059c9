/- More functions of this cut as functions of plain typed data. Printed by a program of this claim's prover; each is checked here to be what the executor makes of the code. -/
import Derived.Test.YtklkpogdghiagaaD113
set_option linter.unusedVariables false
set_option maxRecDepth 100000
namespace Go.Proofs.Ytklkpogdghiagaa
open Go.SX
/-! 13: backstay/backstaylaw11.UndoBack -/
noncomputable def l11_UndoBack_L1 (x1 : List l11_Do) (x6 : Int) (s : (Int × Int × Log × (List (List Int)))) : Option ((Int × Int × Log × (List (List Int))) ⊕ Unit ⊕ Bool) :=
  if (decide (s.2.1 < (List.length x1 : Int))) && (decide (s.2.1 < (100 : Int))) then
    (getO x1 s.2.1).bind fun v18 =>
    (remO (l11_Do.Kind v18) (5 : Int)).bind fun v20 =>
    let v21 : Bool := decide (v20 = (0 : Int))
    orExit (
      if bif v21 then v21 else decide (v20 = (1 : Int)) then
        (remO (w64 (l11_Do.At v18)) x6).bind fun v25 =>
        (undo_Write s.2.2.1 v25 (l11_Do.Val v18)).bind fun v27 =>
        (
          if !decide (v27.2 = (0 : Int)) then
            some (true)
          else
            (remO (w64 (l11_Do.At v18)) x6).bind fun v33 =>
            (getO (Log.Mem v27.1) v33).bind fun v34 =>
            some ((!decide (v34 = (l11_Do.Val v18)))) : Option Bool).bind fun v29 =>
        if v29 then
          some (Sum.inr (Sum.inr (Sum.inr (false))))
        else
          some (Sum.inl (s.1, v27.1, s.2.2.2))
      else
        orExit (
          if decide (v20 = (2 : Int)) then
            (undo_Next s.2.2.1).bind fun v24 =>
            if (!decide (v24.2 = (0 : Int))) || (!decide ((Log.Span v24.1) = (w64 ((Log.Span s.2.2.1) + (1 : Int))))) then
              some (Sum.inr (Sum.inr (Sum.inr (Sum.inr (false)))))
            else
              (rngO (List.length s.2.2.2 : Int) (0 : Int) (Log.Span v24.1)).bind fun v29 =>
              (eqiO (Log.Span v24.1) v29).bind fun v30 =>
              (appO 4 ([] : List Int) (Log.Mem v24.1)).bind fun v32 =>
              (subO s.2.2.2 (0 : Int) v30).bind fun v34 =>
              (appO 24 v34 ([v32] : List (List Int))).bind fun v35 =>
              some (Sum.inl (s.1, v24.1, v35))
          else
            orExit (
              if decide (v20 = (3 : Int)) then
                (remO (w64 (l11_Do.To v18)) (w64 ((w64 ((Log.Span s.2.2.1) - s.1)) + (1 : Int)))).bind fun v30 =>
                let v31 : Int := w64 (s.1 + v30)
                (undo_Back s.2.2.1 v31).bind fun v32 =>
                (
                  if !decide (v32.2 = (0 : Int)) then
                    some (true)
                  else
                    if !decide ((Log.Span v32.1) = v31) then
                      some (true)
                    else
                      (idxO (List.length s.2.2.2 : Int) v31).bind fun v38 =>
                      (getO s.2.2.2 v38).bind fun v39 =>
                      (r04_Words (Log.Mem v32.1) v39).bind fun v40 =>
                      some ((!v40)) : Option Bool).bind fun v34 =>
                if v34 then
                  some (Sum.inr (Sum.inr (Sum.inr (Sum.inr (Sum.inr (false))))))
                else
                  some (Sum.inl (s.1, v32.1))
              else
                (remO (w64 (l11_Do.To v18)) (w64 ((w64 ((Log.Span s.2.2.1) - s.1)) + (1 : Int)))).bind fun v30 =>
                let v31 : Int := w64 (s.1 + v30)
                (undo_Trim s.2.2.1 v31).bind fun v32 =>
                (
                  if !decide (v32.2 = (0 : Int)) then
                    some (true)
                  else
                    (r04_Words (Log.Mem v32.1) (Log.Mem s.2.2.1)).bind fun v37 =>
                    if !v37 then
                      some (true)
                    else
                      (undo_Room v32.1).bind fun v39 =>
                      (undo_Room s.2.2.1).bind fun v40 =>
                      some ((decide (v39 < v40))) : Option Bool).bind fun v34 =>
                if v34 then
                  some (Sum.inr (Sum.inr (Sum.inr (Sum.inr (Sum.inr (false))))))
                else
                  some (Sum.inl (v31, v32.1)) : Option ((Int × Log) ⊕ (Int × Log × (List (List Int))) ⊕ (Int × Log × (List (List Int))) ⊕ (Int × Int × Log × (List (List Int))) ⊕ Unit ⊕ Bool)) fun v25 =>
            some (Sum.inl (v25.1, v25.2, s.2.2.2)) : Option ((Int × Log × (List (List Int))) ⊕ (Int × Log × (List (List Int))) ⊕ (Int × Int × Log × (List (List Int))) ⊕ Unit ⊕ Bool)) fun v24 =>
        some (Sum.inl (v24.1, v24.2.1, v24.2.2)) : Option ((Int × Log × (List (List Int))) ⊕ (Int × Int × Log × (List (List Int))) ⊕ Unit ⊕ Bool)) fun v23 =>
    (
      (undo_Right v23.2.1).bind fun v26 =>
      if !v26 then
        some (true)
      else
        some ((!decide ((List.length (Log.Mem v23.2.1) : Int) = x6))) : Option Bool).bind fun v26 =>
    if v26 then
      some (Sum.inr (Sum.inr (false)))
    else
      some (Sum.inl (v23.1, w64 (s.2.1 + (1 : Int)), v23.2.1, v23.2.2))
  else
    some (Sum.inr (Sum.inl ()))
noncomputable def l11_UndoBack (p0 : Int) (p1 : List l11_Do) : Option Bool :=
  if !l11_awake then
    some (false)
  else
    (remO p0 (16 : Int)).bind fun v4 =>
    let v6 : Int := w64 ((w64 v4) + (1 : Int))
    (undo_New v6).bind fun v7 =>
    if !decide (v7.2 = (0 : Int)) then
      some (false)
    else
      (appO 4 ([] : List Int) (Log.Mem v7.1)).bind fun v11 =>
      orExit (
        loopD (l11_UndoBack_L1 p1 v6) ((0 : Int), (0 : Int), v7.1, ([v11] : List (List Int))) : Option (Unit ⊕ Bool)) fun v13 =>
      some (true)
noncomputable def F_l11_UndoBack : FnT := ⟨[.int .u8, .sl tl11_Do], [.bool], fun x => l11_UndoBack x.1 x.2⟩
noncomputable def A_l11_UndoBack : TA :=
 .callp 39 F_l11_awake [] 1 <|
 .prim (.un .not) [.v 2] <|
 .ite (.v 3) (
  .jmp 0 false [.c (.bool false)]) (
  .prim (.bin .rem) [.v 0, .c (.int .u8 16)] <|
  .prim (.conv .i64) [.v 4] <|
  .prim (.bin .add) [.v 5, .c (.int .i64 1)] <|
  .call 58 F_undo_New [.v 6] 2 <|
  .prim (.bin .neq) [.v 8, .c (.int .i64 0)] <|
  .ite (.v 9) (
   .jmp 0 false [.c (.bool false)]) (
   .prim (.fld 0) [.v 7] <|
   .primH (.app 4) (.sl (.int .u32)) [.c (.sl []), .v 10] <|
   .mkL (.sl (.int .u32)) [.v 11] <|
   .sub1 [] (
    .loop [.int .i64, .int .i64, tLog, .sl (.sl (.int .u32))] [.c (.int .i64 0), .c (.int .i64 0), .v 7, .v 12] (
     .subp [.bool] (
      .prim .len [.v 1] <|
      .prim (.bin .lss) [.v 14, .v 17] <|
      .ite (.v 18) (
       .prim (.bin .lss) [.v 14, .c (.int .i64 100)] <|
       .jmp 0 false [.v 19]) (
       .jmp 0 false [.c (.bool false)])) 1 <|
     .ite (.v 17) (
      .prim .get [.v 1, .v 14] <|
      .prim (.fld 0) [.v 18] <|
      .prim (.bin .rem) [.v 19, .c (.int .u8 5)] <|
      .prim (.bin .eql) [.v 20, .c (.int .u8 0)] <|
      .subp [.bool] (
       .ite (.v 21) (
        .jmp 0 false [.v 21]) (
        .prim (.bin .eql) [.v 20, .c (.int .u8 1)] <|
        .jmp 0 false [.v 22])) 1 <|
      .sub1 [.int .i64, tLog, .sl (.sl (.int .u32))] (
       .ite (.v 22) (
        .prim (.fld 1) [.v 18] <|
        .prim (.conv .i64) [.v 23] <|
        .prim (.bin .rem) [.v 24, .v 6] <|
        .prim (.fld 3) [.v 18] <|
        .call 42 F_undo_Write [.v 15, .v 25, .v 26] 2 <|
        .sub0 [.bool] (
         .prim (.bin .neq) [.v 28, .c (.int .i64 0)] <|
         .ite (.v 29) (
          .jmp 0 false [.c (.bool true)]) (
          .prim (.fld 0) [.v 27] <|
          .prim (.fld 1) [.v 18] <|
          .prim (.conv .i64) [.v 31] <|
          .prim (.bin .rem) [.v 32, .v 6] <|
          .prim .get [.v 30, .v 33] <|
          .prim (.fld 3) [.v 18] <|
          .prim (.bin .neq) [.v 34, .v 35] <|
          .jmp 0 false [.v 36])) 1 <|
        .ite (.v 29) (
         .jmp 3 false [.c (.bool false)]) (
         .jmp 0 false [.v 13, .v 27, .v 16])) (
        .prim (.bin .eql) [.v 20, .c (.int .u8 2)] <|
        .sub1 [.int .i64, tLog, .sl (.sl (.int .u32))] (
         .ite (.v 23) (
          .call 40 F_undo_Next [.v 15] 2 <|
          .subp [.bool] (
           .prim (.bin .neq) [.v 25, .c (.int .i64 0)] <|
           .ite (.v 26) (
            .jmp 0 false [.c (.bool true)]) (
            .prim (.fld 1) [.v 24] <|
            .prim (.fld 1) [.v 15] <|
            .prim (.bin .add) [.v 28, .c (.int .i64 1)] <|
            .prim (.bin .neq) [.v 27, .v 29] <|
            .jmp 0 false [.v 30])) 1 <|
          .ite (.v 26) (
           .jmp 4 false [.c (.bool false)]) (
           .prim (.fld 1) [.v 24] <|
           .prim (.fld 1) [.v 24] <|
           .prim .rng [.v 16, .c (.int .i64 0), .v 27] <|
           .prim .eqi [.v 28, .v 29] <|
           .prim (.fld 0) [.v 24] <|
           .primH (.app 4) (.sl (.int .u32)) [.c (.sl []), .v 31] <|
           .mkL (.sl (.int .u32)) [.v 32] <|
           .prim .sub [.v 16, .c (.int .i64 0), .v 30] <|
           .prim (.app 24) [.v 34, .v 33] <|
           .jmp 0 false [.v 13, .v 24, .v 35])) (
          .prim (.bin .eql) [.v 20, .c (.int .u8 3)] <|
          .sub1 [.int .i64, tLog] (
           .ite (.v 24) (
            .prim (.fld 2) [.v 18] <|
            .prim (.conv .i64) [.v 25] <|
            .prim (.fld 1) [.v 15] <|
            .prim (.bin .sub) [.v 27, .v 13] <|
            .prim (.bin .add) [.v 28, .c (.int .i64 1)] <|
            .prim (.bin .rem) [.v 26, .v 29] <|
            .prim (.bin .add) [.v 13, .v 30] <|
            .call 43 F_undo_Back [.v 15, .v 31] 2 <|
            .sub0 [.bool] (
             .prim (.bin .neq) [.v 33, .c (.int .i64 0)] <|
             .ite (.v 34) (
              .jmp 0 false [.c (.bool true)]) (
              .prim (.fld 1) [.v 32] <|
              .prim (.bin .neq) [.v 35, .v 31] <|
              .ite (.v 36) (
               .jmp 0 false [.c (.bool true)]) (
               .prim (.fld 0) [.v 32] <|
               .prim .idx [.v 16, .v 31] <|
               .prim .get [.v 16, .v 38] <|
               .call 62 F_r04_Words [.v 37, .v 39] 1 <|
               .prim (.un .not) [.v 40] <|
               .jmp 0 false [.v 41]))) 1 <|
            .ite (.v 34) (
             .jmp 5 false [.c (.bool false)]) (
             .jmp 0 false [.v 13, .v 32])) (
            .prim (.fld 2) [.v 18] <|
            .prim (.conv .i64) [.v 25] <|
            .prim (.fld 1) [.v 15] <|
            .prim (.bin .sub) [.v 27, .v 13] <|
            .prim (.bin .add) [.v 28, .c (.int .i64 1)] <|
            .prim (.bin .rem) [.v 26, .v 29] <|
            .prim (.bin .add) [.v 13, .v 30] <|
            .call 56 F_undo_Trim [.v 15, .v 31] 2 <|
            .sub0 [.bool] (
             .prim (.bin .neq) [.v 33, .c (.int .i64 0)] <|
             .ite (.v 34) (
              .jmp 0 false [.c (.bool true)]) (
              .prim (.fld 0) [.v 32] <|
              .prim (.fld 0) [.v 15] <|
              .call 62 F_r04_Words [.v 35, .v 36] 1 <|
              .prim (.un .not) [.v 37] <|
              .ite (.v 38) (
               .jmp 0 false [.c (.bool true)]) (
               .call 41 F_undo_Room [.v 32] 1 <|
               .call 41 F_undo_Room [.v 15] 1 <|
               .prim (.bin .lss) [.v 39, .v 40] <|
               .jmp 0 false [.v 41]))) 1 <|
            .ite (.v 34) (
             .jmp 5 false [.c (.bool false)]) (
             .jmp 0 false [.v 31, .v 32]))) 2 <|
          .jmp 0 false [.v 25, .v 26, .v 16])) 3 <|
        .jmp 0 false [.v 24, .v 25, .v 26])) 3 <|
      .sub0 [.bool] (
       .call 61 F_undo_Right [.v 24] 1 <|
       .prim (.un .not) [.v 26] <|
       .ite (.v 27) (
        .jmp 0 false [.c (.bool true)]) (
        .prim (.fld 0) [.v 24] <|
        .prim .len [.v 28] <|
        .prim (.bin .neq) [.v 29, .v 6] <|
        .jmp 0 false [.v 30])) 1 <|
      .ite (.v 26) (
       .jmp 2 false [.c (.bool false)]) (
       .prim (.bin .add) [.v 14, .c (.int .i64 1)] <|
       .jmp 0 true [.v 23, .v 27, .v 24, .v 25])) (
      .jmp 1 false []))) 0 <|
   .jmp 0 false [.c (.bool true)]))
theorem a_l11_UndoBack : treeOf cx 12 13 = some A_l11_UndoBack.erase := by kernel_rfl
theorem k_l11_UndoBack : FnOk cx 12 noC 13 F_l11_UndoBack := fn_ok (t := A_l11_UndoBack) a_l11_UndoBack (fun _ => rfl) (ok_of [(39, F_l11_awake.fn), (58, F_undo_New), (42, F_undo_Write), (40, F_undo_Next), (43, F_undo_Back), (62, F_r04_Words), (56, F_undo_Trim), (62, F_r04_Words), (41, F_undo_Room), (41, F_undo_Room), (61, F_undo_Right)] (by kernel_rfl) (.cons k_l11_awake (.cons k_undo_New (.cons k_undo_Write (.cons k_undo_Next (.cons k_undo_Back (.cons k_r04_Words (.cons k_undo_Trim (.cons k_r04_Words (.cons k_undo_Room (.cons k_undo_Room (.cons k_undo_Right .nil)))))))))))) (fun x => by kernel_rfl)

end Go.Proofs.Ytklkpogdghiagaa
