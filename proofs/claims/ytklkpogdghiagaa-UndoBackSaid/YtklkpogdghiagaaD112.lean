/- More functions of this cut as functions of plain typed data. Printed by a program of this claim's prover; each is checked here to be what the executor makes of the code. -/
import Derived.Test.YtklkpogdghiagaaD111
set_option linter.unusedVariables false
set_option maxRecDepth 100000
namespace Go.Proofs.Ytklkpogdghiagaa
open Go.SX
/-! 8: backstay/backstaylaw11.UndoOnce -/
noncomputable def l11_UndoOnce_L1 (x6 : Log) (x13 : Log) (x14 : List Bool) (s : Int) : Option (Int ⊕ Unit ⊕ Bool) :=
  if decide (s < (List.length (Log.Lst x13) : Int)) then
    (
      (getO (Log.Lst x13) s).bind fun v28 =>
      if !decide ((Undo.Span v28) = (Log.Span x6)) then
        some (true)
      else
        (getO (Log.Lst x13) s).bind fun v33 =>
        (getO (Log.Lst x13) s).bind fun v37 =>
        (getO (Log.Mem x6) (Undo.At v37)).bind fun v39 =>
        if !decide ((Undo.Val v33) = v39) then
          some (true)
        else
          (getO (Log.Lst x13) s).bind fun v42 =>
          (idxO (List.length x14 : Int) (Undo.At v42)).bind fun v44 =>
          (getO x14 v44).bind fun v45 =>
          some ((!v45)) : Option Bool).bind fun v27 =>
    if v27 then
      some (Sum.inr (Sum.inr (false)))
    else
      some (Sum.inl (w64 (s + (1 : Int))))
  else
    some (Sum.inr (Sum.inl ()))
noncomputable def l11_UndoOnce_L2 (x1 : List Int) (x2 : List Int) (x6 : Log) (s : (Int × Int × Log × (List Bool))) : Option ((Int × Int × Log × (List Bool)) ⊕ (Int × Log × (List Bool)) ⊕ Bool) :=
  if decide (s.2.1 < (List.length x1 : Int)) then
    (getO x1 s.2.1).bind fun v18 =>
    (remO (w64 v18) (List.length (Log.Mem x6) : Int)).bind fun v22 =>
    (remO s.2.1 (List.length x2 : Int)).bind fun v24 =>
    (getO x2 v24).bind fun v25 =>
    (undo_Write s.2.2.1 v22 v25).bind fun v26 =>
    if !decide (v26.2 = (0 : Int)) then
      some (Sum.inr (Sum.inr (false)))
    else
      (idxO (List.length s.2.2.2 : Int) v22).bind fun v29 =>
      (getO s.2.2.2 v29).bind fun v30 =>
      (
        if !v30 then
          (idxO (List.length s.2.2.2 : Int) v22).bind fun v32 =>
          (setO s.2.2.2 v32 true).bind fun v33 =>
          some ((w64 (s.1 + (1 : Int)), v33))
        else
          some ((s.1, s.2.2.2)) : Option (Int × (List Bool))).bind fun v32 =>
      some (Sum.inl (v32.1, w64 (s.2.1 + (1 : Int)), v26.1, v32.2))
  else
    some (Sum.inr (Sum.inl (s.1, s.2.2.1, s.2.2.2)))
noncomputable def l11_UndoOnce (p0 : Log) (p1 : List Int) (p2 : List Int) : Option Bool :=
  if !l11_awake then
    some (false)
  else
    if (decide ((80 : Int) < (List.length (Log.Mem p0) : Int))) || ((decide ((300 : Int) < (List.length (Log.Lst p0) : Int))) || ((decide ((150 : Int) < (List.length p1 : Int))) || (decide ((List.length p2 : Int) = (0 : Int))))) then
      some (true)
    else
      (undo_Next p0).bind fun v6 =>
      (
        if !decide (v6.2 = (0 : Int)) then
          some (true)
        else
          (undo_Room v6.1).bind fun v9 =>
          some ((decide (v9 < (64 : Int)))) : Option Bool).bind fun v8 =>
      if v8 then
        some (true)
      else
        let v10 : Int := (List.length (Log.Mem v6.1) : Int)
        (repO false 1 v10 v10).bind fun v11 =>
        orExit (
          loopD (l11_UndoOnce_L2 p1 p2 v6.1) ((0 : Int), (0 : Int), v6.1, v11) : Option ((Int × Log × (List Bool)) ⊕ Bool)) fun v12 =>
        if !decide ((List.length (Log.Lst v12.2.1) : Int) = (w64 ((List.length (Log.Lst v6.1) : Int) + v12.1))) then
          some (false)
        else
          orExit (
            loopD (l11_UndoOnce_L1 v6.1 v12.2.1 v12.2.2) (List.length (Log.Lst v6.1) : Int) : Option (Unit ⊕ Bool)) fun v23 =>
          (undo_Back v12.2.1 (Log.Span v6.1)).bind fun v24 =>
          (
            if decide (v24.2 = (0 : Int)) then
              (r11_Same v24.1 v6.1).bind fun v27 =>
              some (v27)
            else
              some (false) : Option Bool).bind fun v26 =>
          some (v26)
noncomputable def F_l11_UndoOnce : FnT := ⟨[tLog, .sl (.int .u8), .sl (.int .u32)], [.bool], fun x => l11_UndoOnce x.1 x.2.1 x.2.2⟩
noncomputable def A_l11_UndoOnce : TA :=
 .callp 39 F_l11_awake [] 1 <|
 .prim (.un .not) [.v 3] <|
 .ite (.v 4) (
  .jmp 0 false [.c (.bool false)]) (
  .subp [.bool] (
   .prim (.fld 0) [.v 0] <|
   .prim .len [.v 5] <|
   .prim (.bin .gtr) [.v 6, .c (.int .i64 80)] <|
   .ite (.v 7) (
    .jmp 0 false [.c (.bool true)]) (
    .prim (.fld 2) [.v 0] <|
    .prim .len [.v 8] <|
    .prim (.bin .gtr) [.v 9, .c (.int .i64 300)] <|
    .ite (.v 10) (
     .jmp 0 false [.c (.bool true)]) (
     .prim .len [.v 1] <|
     .prim (.bin .gtr) [.v 11, .c (.int .i64 150)] <|
     .ite (.v 12) (
      .jmp 0 false [.c (.bool true)]) (
      .prim .len [.v 2] <|
      .prim (.bin .eql) [.v 13, .c (.int .i64 0)] <|
      .jmp 0 false [.v 14])))) 1 <|
  .ite (.v 5) (
   .jmp 0 false [.c (.bool true)]) (
   .call 40 F_undo_Next [.v 0] 2 <|
   .sub0 [.bool] (
    .prim (.bin .neq) [.v 7, .c (.int .i64 0)] <|
    .ite (.v 8) (
     .jmp 0 false [.c (.bool true)]) (
     .call 41 F_undo_Room [.v 6] 1 <|
     .prim (.bin .lss) [.v 9, .c (.int .i64 64)] <|
     .jmp 0 false [.v 10])) 1 <|
   .ite (.v 8) (
    .jmp 0 false [.c (.bool true)]) (
    .prim (.fld 0) [.v 6] <|
    .prim .len [.v 9] <|
    .primH (.rep (.bool false) 1) (.sl .bool) [.v 10, .v 10] <|
    .sub1 [.int .i64, tLog, .sl .bool] (
     .loop [.int .i64, .int .i64, tLog, .sl .bool] [.c (.int .i64 0), .c (.int .i64 0), .v 6, .v 11] (
      .prim .len [.v 1] <|
      .prim (.bin .lss) [.v 13, .v 16] <|
      .ite (.v 17) (
       .prim .get [.v 1, .v 13] <|
       .prim (.conv .i64) [.v 18] <|
       .prim (.fld 0) [.v 6] <|
       .prim .len [.v 20] <|
       .prim (.bin .rem) [.v 19, .v 21] <|
       .prim .len [.v 2] <|
       .prim (.bin .rem) [.v 13, .v 23] <|
       .prim .get [.v 2, .v 24] <|
       .call 42 F_undo_Write [.v 14, .v 22, .v 25] 2 <|
       .prim (.bin .neq) [.v 27, .c (.int .i64 0)] <|
       .ite (.v 28) (
        .jmp 2 false [.c (.bool false)]) (
        .prim .idx [.v 15, .v 22] <|
        .prim .get [.v 15, .v 29] <|
        .prim (.un .not) [.v 30] <|
        .sub0 [.int .i64, .sl .bool] (
         .ite (.v 31) (
          .prim .idx [.v 15, .v 22] <|
          .prim .set [.v 15, .v 32, .c (.bool true)] <|
          .prim (.bin .add) [.v 12, .c (.int .i64 1)] <|
          .jmp 0 false [.v 34, .v 33]) (
          .jmp 0 false [.v 12, .v 15])) 2 <|
        .prim (.bin .add) [.v 13, .c (.int .i64 1)] <|
        .jmp 0 true [.v 32, .v 34, .v 26, .v 33])) (
       .jmp 1 false [.v 12, .v 14, .v 15]))) 3 <|
    .prim (.fld 2) [.v 13] <|
    .prim .len [.v 15] <|
    .prim (.fld 2) [.v 6] <|
    .prim .len [.v 17] <|
    .prim (.bin .add) [.v 18, .v 12] <|
    .prim (.bin .neq) [.v 16, .v 19] <|
    .ite (.v 20) (
     .jmp 0 false [.c (.bool false)]) (
     .prim (.fld 2) [.v 6] <|
     .prim .len [.v 21] <|
     .sub1 [] (
      .loop [.int .i64] [.v 22] (
       .prim (.fld 2) [.v 13] <|
       .prim .len [.v 24] <|
       .prim (.bin .lss) [.v 23, .v 25] <|
       .ite (.v 26) (
        .sub0 [.bool] (
         .prim (.fld 2) [.v 13] <|
         .prim .get [.v 27, .v 23] <|
         .prim (.fld 0) [.v 28] <|
         .prim (.fld 1) [.v 6] <|
         .prim (.bin .neq) [.v 29, .v 30] <|
         .ite (.v 31) (
          .jmp 0 false [.c (.bool true)]) (
          .prim (.fld 2) [.v 13] <|
          .prim .get [.v 32, .v 23] <|
          .prim (.fld 2) [.v 33] <|
          .prim (.fld 0) [.v 6] <|
          .prim (.fld 2) [.v 13] <|
          .prim .get [.v 36, .v 23] <|
          .prim (.fld 1) [.v 37] <|
          .prim .get [.v 35, .v 38] <|
          .prim (.bin .neq) [.v 34, .v 39] <|
          .ite (.v 40) (
           .jmp 0 false [.c (.bool true)]) (
           .prim (.fld 2) [.v 13] <|
           .prim .get [.v 41, .v 23] <|
           .prim (.fld 1) [.v 42] <|
           .prim .idx [.v 14, .v 43] <|
           .prim .get [.v 14, .v 44] <|
           .prim (.un .not) [.v 45] <|
           .jmp 0 false [.v 46]))) 1 <|
        .ite (.v 27) (
         .jmp 2 false [.c (.bool false)]) (
         .prim (.bin .add) [.v 23, .c (.int .i64 1)] <|
         .jmp 0 true [.v 28])) (
        .jmp 1 false []))) 0 <|
     .prim (.fld 1) [.v 6] <|
     .call 43 F_undo_Back [.v 13, .v 23] 2 <|
     .sub0 [.bool] (
      .prim (.bin .eql) [.v 25, .c (.int .i64 0)] <|
      .ite (.v 26) (
       .call 44 F_r11_Same [.v 24, .v 6] 1 <|
       .jmp 0 false [.v 27]) (
       .jmp 0 false [.c (.bool false)])) 1 <|
     .jmp 0 false [.v 26]))))
theorem a_l11_UndoOnce : treeOf cx 12 8 = some A_l11_UndoOnce.erase := by kernel_rfl
theorem k_l11_UndoOnce : FnOk cx 12 noC 8 F_l11_UndoOnce := fn_ok (t := A_l11_UndoOnce) a_l11_UndoOnce (fun _ => rfl) (ok_of [(39, F_l11_awake.fn), (40, F_undo_Next), (41, F_undo_Room), (42, F_undo_Write), (43, F_undo_Back), (44, F_r11_Same)] (by kernel_rfl) (.cons k_l11_awake (.cons k_undo_Next (.cons k_undo_Room (.cons k_undo_Write (.cons k_undo_Back (.cons k_r11_Same .nil))))))) (fun x => by kernel_rfl)

end Go.Proofs.Ytklkpogdghiagaa
