/- More functions of this cut as functions of plain typed data. Printed by a program of this claim's prover; each is checked here to be what the executor makes of the code. -/
import Derived.Test.YtklkpogdghiagaaD09n1
set_option linter.unusedVariables false
set_option maxRecDepth 100000
namespace Go.Proofs.Ytklkpogdghiagaa
open Go.SX
/-! 3: backstay/backstaylaw09.DirecAll -/
noncomputable def l09_DirecAll_L1 (x7 : Int) (x12 : Int) (x14 : List Bool) (x16 : Int) (s : (Int × Int)) : Option ((Int × Int) ⊕ Int) :=
  if decide (s.2 < x7) then
    (
      (idxO (List.length x14 : Int) s.2).bind fun v24 =>
      (getO x14 v24).bind fun v25 =>
      if v25 then
        if !decide (s.2 = x16) then
          some ((!decide (s.2 = x12)))
        else
          some (false)
      else
        some (false) : Option Bool).bind fun v24 =>
    some (Sum.inl (bif v24 then w64 (s.1 + (1 : Int)) else s.1, w64 (s.2 + (1 : Int))))
  else
    some (Sum.inr (s.1))
noncomputable def l09_DirecAll_L2 (x1 : List Int) (x7 : Int) (s : (Int × Int × Entry × (List Bool))) : Option ((Int × Int × Entry × (List Bool)) ⊕ (Int × Entry × (List Bool)) ⊕ Bool) :=
  if decide (s.2.1 < (List.length x1 : Int)) then
    (getO x1 s.2.1).bind fun v18 =>
    (remO (w64 v18) x7).bind fun v20 =>
    let v22 : Int := bif decide (s.1 < (0 : Int)) then v20 else s.1
    (direc_Read s.2.2.1 v20).bind fun v23 =>
    if (!decide (v23.2.2 = (0 : Int))) || ((!decide ((Entry.Owner v23.1) = (w64 (v22 + (1 : Int))))) || (bif decide ((0 : Int) < s.2.1) then (!decide (v23.2.1 = (w64 (v22 + (1 : Int))))) || ((decide (s.2.1 = (0 : Int))) && (!decide (v23.2.1 = (0 : Int)))) else (decide (s.2.1 = (0 : Int))) && (!decide (v23.2.1 = (0 : Int))))) then
      some (Sum.inr (Sum.inr (false)))
    else
      (idxO (List.length s.2.2.2 : Int) v20).bind fun v27 =>
      (setO s.2.2.2 v27 true).bind fun v28 =>
      some (Sum.inl (v22, w64 (s.2.1 + (1 : Int)), v23.1, v28))
  else
    some (Sum.inr (Sum.inl (s.1, s.2.2.1, s.2.2.2)))
noncomputable def l09_DirecAll (p0 : Int) (p1 : List Int) (p2 : Int) : Option Bool :=
  if !l09_awake then
    some (false)
  else
    (remO p0 (4 : Int)).bind fun v5 =>
    let v7 : Int := w64 ((w64 v5) + (1 : Int))
    (direc_New v7).bind fun v8 =>
    if (!decide (v8.2 = (0 : Int))) || (decide ((50 : Int) < (List.length p1 : Int))) then
      some ((decide (v8.2 = (0 : Int))))
    else
      (repO false 1 v7 v7).bind fun v11 =>
      orExit (
        loopD (l09_DirecAll_L2 p1 v7) ((-1 : Int), (0 : Int), v8.1, v11) : Option ((Int × Entry × (List Bool)) ⊕ Bool)) fun v12 =>
      (remO (w64 p2) v7).bind fun v16 =>
      (direc_Write v12.2.1 v16).bind fun v17 =>
      (
        loopD (l09_DirecAll_L1 v7 v12.1 v12.2.2 v16) ((0 : Int), (0 : Int)) : Option Int).bind fun v21 =>
      (
        if decide (v17.2.2.2 = (0 : Int)) then
          if decide ((Entry.Owner v17.1) = (w64 (v16 + (1 : Int)))) then
            (direc_Alone v17.1).bind fun v26 =>
            if v26 then
              if decide ((List.length v17.2.2.1 : Int) = v21) then
                some ((decide (v17.2.1 = (w64 (v12.1 + (1 : Int))))))
              else
                some (false)
            else
              some (false)
          else
            some (false)
        else
          some (false) : Option Bool).bind fun v22 =>
      some (v22)
noncomputable def F_l09_DirecAll : FnT := ⟨[.int .u8, .sl (.int .u8), .int .u8], [.bool], fun x => l09_DirecAll x.1 x.2.1 x.2.2⟩
noncomputable def A_l09_DirecAll : TA :=
 .callp 14 F_l09_awake [] 1 <|
 .prim (.un .not) [.v 3] <|
 .ite (.v 4) (
  .jmp 0 false [.c (.bool false)]) (
  .prim (.bin .rem) [.v 0, .c (.int .u8 4)] <|
  .prim (.conv .i64) [.v 5] <|
  .prim (.bin .add) [.v 6, .c (.int .i64 1)] <|
  .call 15 F_direc_New [.v 7] 2 <|
  .subp [.bool] (
   .prim (.bin .neq) [.v 9, .c (.int .i64 0)] <|
   .ite (.v 10) (
    .jmp 0 false [.c (.bool true)]) (
    .prim .len [.v 1] <|
    .prim (.bin .gtr) [.v 11, .c (.int .i64 50)] <|
    .jmp 0 false [.v 12])) 1 <|
  .ite (.v 10) (
   .prim (.bin .eql) [.v 9, .c (.int .i64 0)] <|
   .jmp 0 false [.v 11]) (
   .primH (.rep (.bool false) 1) (.sl .bool) [.v 7, .v 7] <|
   .sub1 [.int .i64, tEntry, .sl .bool] (
    .loop [.int .i64, .int .i64, tEntry, .sl .bool] [.c (.int .i64 (-1)), .c (.int .i64 0), .v 8, .v 11] (
     .prim .len [.v 1] <|
     .prim (.bin .lss) [.v 13, .v 16] <|
     .ite (.v 17) (
      .prim .get [.v 1, .v 13] <|
      .prim (.conv .i64) [.v 18] <|
      .prim (.bin .rem) [.v 19, .v 7] <|
      .prim (.bin .lss) [.v 12, .c (.int .i64 0)] <|
      .subp [.int .i64] (
       .ite (.v 21) (
        .jmp 0 false [.v 20]) (
        .jmp 0 false [.v 12])) 1 <|
      .call 16 F_direc_Read [.v 14, .v 20] 3 <|
      .subp [.bool] (
       .prim (.bin .neq) [.v 25, .c (.int .i64 0)] <|
       .ite (.v 26) (
        .jmp 0 false [.c (.bool true)]) (
        .prim (.fld 0) [.v 23] <|
        .prim (.bin .add) [.v 22, .c (.int .i64 1)] <|
        .prim (.bin .neq) [.v 27, .v 28] <|
        .ite (.v 29) (
         .jmp 0 false [.c (.bool true)]) (
         .prim (.bin .gtr) [.v 13, .c (.int .i64 0)] <|
         .ite (.v 30) (
          .prim (.bin .add) [.v 22, .c (.int .i64 1)] <|
          .prim (.bin .neq) [.v 24, .v 31] <|
          .ite (.v 32) (
           .jmp 0 false [.c (.bool true)]) (
           .prim (.bin .eql) [.v 13, .c (.int .i64 0)] <|
           .ite (.v 33) (
            .prim (.bin .neq) [.v 24, .c (.int .i64 0)] <|
            .jmp 0 false [.v 34]) (
            .jmp 0 false [.c (.bool false)]))) (
          .prim (.bin .eql) [.v 13, .c (.int .i64 0)] <|
          .ite (.v 31) (
           .prim (.bin .neq) [.v 24, .c (.int .i64 0)] <|
           .jmp 0 false [.v 32]) (
           .jmp 0 false [.c (.bool false)]))))) 1 <|
      .ite (.v 26) (
       .jmp 2 false [.c (.bool false)]) (
       .prim .idx [.v 15, .v 20] <|
       .prim .set [.v 15, .v 27, .c (.bool true)] <|
       .prim (.bin .add) [.v 13, .c (.int .i64 1)] <|
       .jmp 0 true [.v 22, .v 29, .v 23, .v 28])) (
      .jmp 1 false [.v 12, .v 14, .v 15]))) 3 <|
   .prim (.conv .i64) [.v 2] <|
   .prim (.bin .rem) [.v 15, .v 7] <|
   .call 17 F_direc_Write [.v 13, .v 16] 4 <|
   .sub0 [.int .i64] (
    .loop [.int .i64, .int .i64] [.c (.int .i64 0), .c (.int .i64 0)] (
     .prim (.bin .lss) [.v 22, .v 7] <|
     .ite (.v 23) (
      .sub0 [.bool] (
       .prim .idx [.v 14, .v 22] <|
       .prim .get [.v 14, .v 24] <|
       .ite (.v 25) (
        .prim (.bin .neq) [.v 22, .v 16] <|
        .ite (.v 26) (
         .prim (.bin .neq) [.v 22, .v 12] <|
         .jmp 0 false [.v 27]) (
         .jmp 0 false [.c (.bool false)])) (
        .jmp 0 false [.c (.bool false)])) 1 <|
      .subp [.int .i64] (
       .ite (.v 24) (
        .prim (.bin .add) [.v 21, .c (.int .i64 1)] <|
        .jmp 0 false [.v 25]) (
        .jmp 0 false [.v 21])) 1 <|
      .prim (.bin .add) [.v 22, .c (.int .i64 1)] <|
      .jmp 0 true [.v 25, .v 26]) (
      .jmp 1 false [.v 21]))) 1 <|
   .sub0 [.bool] (
    .prim (.bin .eql) [.v 20, .c (.int .i64 0)] <|
    .ite (.v 22) (
     .prim (.fld 0) [.v 17] <|
     .prim (.bin .add) [.v 16, .c (.int .i64 1)] <|
     .prim (.bin .eql) [.v 23, .v 24] <|
     .ite (.v 25) (
      .call 18 F_direc_Alone [.v 17] 1 <|
      .ite (.v 26) (
       .prim .len [.v 19] <|
       .prim (.bin .eql) [.v 27, .v 21] <|
       .ite (.v 28) (
        .prim (.bin .add) [.v 12, .c (.int .i64 1)] <|
        .prim (.bin .eql) [.v 18, .v 29] <|
        .jmp 0 false [.v 30]) (
        .jmp 0 false [.c (.bool false)])) (
       .jmp 0 false [.c (.bool false)])) (
      .jmp 0 false [.c (.bool false)])) (
     .jmp 0 false [.c (.bool false)])) 1 <|
   .jmp 0 false [.v 22]))
theorem a_l09_DirecAll : treeOf cx 12 3 = some A_l09_DirecAll.erase := by kernel_rfl
theorem k_l09_DirecAll : FnOk cx 12 noC 3 F_l09_DirecAll := fn_ok (t := A_l09_DirecAll) a_l09_DirecAll (fun _ => rfl) (ok_of [(14, F_l09_awake.fn), (15, F_direc_New), (16, F_direc_Read), (17, F_direc_Write), (18, F_direc_Alone)] (by kernel_rfl) (.cons k_l09_awake (.cons k_direc_New (.cons k_direc_Read (.cons k_direc_Write (.cons k_direc_Alone .nil)))))) (fun x => by kernel_rfl)

end Go.Proofs.Ytklkpogdghiagaa
