/- More functions of this cut as functions of plain typed data. Printed by a program of this claim's prover; each is checked here to be what the executor makes of the code. -/
import Derived.Test.YtklkpogdghiagaaD09n3
set_option linter.unusedVariables false
set_option maxRecDepth 100000
namespace Go.Proofs.Ytklkpogdghiagaa
open Go.SX
/-! 6: backstay/backstaylaw09.DirecOne -/
noncomputable def l09_DirecOne_L1 (x6 : Int) (x11 : Entry) (x20 : Entry) (s : Int) : Option (Int ⊕ Unit ⊕ Entry ⊕ (Int × Entry) ⊕ Unit ⊕ Bool) :=
  if decide (s < x6) then
    (
      (getO (Entry.Share x11) s).bind fun v27 =>
      if v27 then
        (getO (Entry.Share x20) s).bind fun v29 =>
        if !v29 then
          some ((!decide ((Entry.Owner x20) = (w64 (s + (1 : Int))))))
        else
          some (false)
      else
        some (false) : Option Bool).bind fun v26 =>
    if v26 then
      some (Sum.inr (Sum.inr (Sum.inr (Sum.inr (Sum.inr (false))))))
    else
      some (Sum.inl (w64 (s + (1 : Int))))
  else
    some (Sum.inr (Sum.inl ()))
noncomputable def l09_DirecOne_L2 (x11 : Entry) (x16 : Int) (x23 : List Int) (s : Int) : Option (Int ⊕ Unit ⊕ Entry ⊕ Entry ⊕ (Int × Entry) ⊕ Unit ⊕ Bool) :=
  if decide (s < (List.length x23 : Int)) then
    (
      (getO x23 s).bind fun v30 =>
      if decide (v30 = x16) then
        some (true)
      else
        (getO x23 s).bind fun v33 =>
        (getO (Entry.Share x11) v33).bind fun v34 =>
        if !v34 then
          some (true)
        else
          if decide ((0 : Int) < s) then
            (getO x23 s).bind fun v37 =>
            (getO x23 (w64 (s - (1 : Int)))).bind fun v39 =>
            some ((decide (v37 ≤ v39)))
          else
            some (false) : Option Bool).bind fun v30 =>
    if v30 then
      some (Sum.inr (Sum.inr (Sum.inr (Sum.inr (Sum.inr (Sum.inr (false)))))))
    else
      some (Sum.inl (w64 (s + (1 : Int))))
  else
    some (Sum.inr (Sum.inl ()))
noncomputable def l09_DirecOne_L3 (x6 : Int) (x11 : Entry) (x16 : Int) (s : (Int × Int)) : Option ((Int × Int) ⊕ Int) :=
  if decide (s.2 < x6) then
    (
      (getO (Entry.Share x11) s.2).bind fun v30 =>
      if v30 then
        some ((!decide (s.2 = x16)))
      else
        some (false) : Option Bool).bind fun v29 =>
    some (Sum.inl (bif v29 then w64 (s.1 + (1 : Int)) else s.1, w64 (s.2 + (1 : Int))))
  else
    some (Sum.inr (s.1))
noncomputable def l09_DirecOne_L4 (x1 : List Int) (x6 : Int) (s : (Int × Entry)) : Option ((Int × Entry) ⊕ Unit ⊕ Bool) :=
  if (decide (s.1 < (List.length x1 : Int))) && (decide (s.1 < (100 : Int))) then
    (getO x1 s.1).bind fun v13 =>
    (quoO .u8 v13 (3 : Int)).bind fun v14 =>
    (remO (w64 v14) x6).bind fun v16 =>
    (getO x1 s.1).bind fun v17 =>
    (remO v17 (3 : Int)).bind fun v18 =>
    orExit (
      if decide (v18 = (0 : Int)) then
        (direc_Read s.2 v16).bind fun v20 =>
        (
          if !decide (v20.2.2 = (0 : Int)) then
            some (true)
          else
            if !decide (v20.2.1 = (Entry.Owner s.2)) then
              some (true)
            else
              if !decide ((Entry.Owner v20.1) = (w64 (v16 + (1 : Int)))) then
                (getO (Entry.Share v20.1) v16).bind fun v30 =>
                if !v30 then
                  some (true)
                else
                  if decide ((0 : Int) < (Entry.Owner s.2)) then
                    some ((!decide ((Entry.Owner v20.1) = (Entry.Owner s.2))))
                  else
                    some (false)
              else
                if decide ((0 : Int) < (Entry.Owner s.2)) then
                  some ((!decide ((Entry.Owner v20.1) = (Entry.Owner s.2))))
                else
                  some (false) : Option Bool).bind fun v23 =>
        if v23 then
          some (Sum.inr (Sum.inr (Sum.inr (false))))
        else
          orExit (
            loopD (l09_DirecOne_L1 x6 s.2 v20.1) (0 : Int) : Option (Unit ⊕ Entry ⊕ (Int × Entry) ⊕ Unit ⊕ Bool)) fun v24 =>
          some (Sum.inl v20.1)
      else
        orExit (
          if decide (v18 = (1 : Int)) then
            (direc_Write s.2 v16).bind fun v21 =>
            (
              if !decide (v21.2.2.2 = (0 : Int)) then
                some (true)
              else
                if !decide (v21.2.1 = (Entry.Owner s.2)) then
                  some (true)
                else
                  if !decide ((Entry.Owner v21.1) = (w64 (v16 + (1 : Int)))) then
                    some (true)
                  else
                    (direc_Alone v21.1).bind fun v31 =>
                    some ((!v31)) : Option Bool).bind fun v25 =>
            if v25 then
              some (Sum.inr (Sum.inr (Sum.inr (Sum.inr (false)))))
            else
              (
                loopD (l09_DirecOne_L3 x6 s.2 v16) ((0 : Int), (0 : Int)) : Option Int).bind fun v26 =>
              orExit (
                loopD (l09_DirecOne_L2 s.2 v16 v21.2.2.1) (0 : Int) : Option (Unit ⊕ Entry ⊕ Entry ⊕ (Int × Entry) ⊕ Unit ⊕ Bool)) fun v27 =>
              if !decide (v26 = (List.length v21.2.2.1 : Int)) then
                some (Sum.inr (Sum.inr (Sum.inr (Sum.inr (false)))))
              else
                some (Sum.inl v21.1)
          else
            (direc_Back s.2 v16).bind fun v21 =>
            if (!decide ((decide (v21.2 = (0 : Int))) = (decide ((Entry.Owner s.2) = (w64 (v16 + (1 : Int))))))) || ((decide (v21.2 = (0 : Int))) && (!decide ((Entry.Owner v21.1) = (0 : Int)))) then
              some (Sum.inr (Sum.inr (Sum.inr (Sum.inr (false)))))
            else
              some (Sum.inl v21.1) : Option (Entry ⊕ Entry ⊕ (Int × Entry) ⊕ Unit ⊕ Bool)) fun v21 =>
        some (Sum.inl v21) : Option (Entry ⊕ (Int × Entry) ⊕ Unit ⊕ Bool)) fun v20 =>
    (direc_May v20 x6).bind fun v21 =>
    if !v21 then
      some (Sum.inr (Sum.inr (false)))
    else
      some (Sum.inl (w64 (s.1 + (1 : Int)), v20))
  else
    some (Sum.inr (Sum.inl ()))
noncomputable def l09_DirecOne (p0 : Int) (p1 : List Int) : Option Bool :=
  if !l09_awake then
    some (false)
  else
    (remO p0 (4 : Int)).bind fun v4 =>
    let v6 : Int := w64 ((w64 v4) + (1 : Int))
    (direc_New v6).bind fun v7 =>
    if !decide (v7.2 = (0 : Int)) then
      some (false)
    else
      orExit (
        loopD (l09_DirecOne_L4 p1 v6) ((0 : Int), v7.1) : Option (Unit ⊕ Bool)) fun v10 =>
      some (true)
noncomputable def F_l09_DirecOne : FnT := ⟨[.int .u8, .sl (.int .u8)], [.bool], fun x => l09_DirecOne x.1 x.2⟩
noncomputable def A_l09_DirecOne : TA :=
 .callp 14 F_l09_awake [] 1 <|
 .prim (.un .not) [.v 2] <|
 .ite (.v 3) (
  .jmp 0 false [.c (.bool false)]) (
  .prim (.bin .rem) [.v 0, .c (.int .u8 4)] <|
  .prim (.conv .i64) [.v 4] <|
  .prim (.bin .add) [.v 5, .c (.int .i64 1)] <|
  .call 15 F_direc_New [.v 6] 2 <|
  .prim (.bin .neq) [.v 8, .c (.int .i64 0)] <|
  .ite (.v 9) (
   .jmp 0 false [.c (.bool false)]) (
   .sub1 [] (
    .loop [.int .i64, tEntry] [.c (.int .i64 0), .v 7] (
     .subp [.bool] (
      .prim .len [.v 1] <|
      .prim (.bin .lss) [.v 10, .v 12] <|
      .ite (.v 13) (
       .prim (.bin .lss) [.v 10, .c (.int .i64 100)] <|
       .jmp 0 false [.v 14]) (
       .jmp 0 false [.c (.bool false)])) 1 <|
     .ite (.v 12) (
      .prim .get [.v 1, .v 10] <|
      .prim (.bin .quo) [.v 13, .c (.int .u8 3)] <|
      .prim (.conv .i64) [.v 14] <|
      .prim (.bin .rem) [.v 15, .v 6] <|
      .prim .get [.v 1, .v 10] <|
      .prim (.bin .rem) [.v 17, .c (.int .u8 3)] <|
      .prim (.bin .eql) [.v 18, .c (.int .u8 0)] <|
      .sub1 [tEntry] (
       .ite (.v 19) (
        .call 16 F_direc_Read [.v 11, .v 16] 3 <|
        .sub0 [.bool] (
         .prim (.bin .neq) [.v 22, .c (.int .i64 0)] <|
         .ite (.v 23) (
          .jmp 0 false [.c (.bool true)]) (
          .prim (.fld 0) [.v 11] <|
          .prim (.bin .neq) [.v 21, .v 24] <|
          .ite (.v 25) (
           .jmp 0 false [.c (.bool true)]) (
           .prim (.fld 0) [.v 20] <|
           .prim (.bin .add) [.v 16, .c (.int .i64 1)] <|
           .prim (.bin .neq) [.v 26, .v 27] <|
           .ite (.v 28) (
            .prim (.fld 1) [.v 20] <|
            .prim .get [.v 29, .v 16] <|
            .prim (.un .not) [.v 30] <|
            .ite (.v 31) (
             .jmp 0 false [.c (.bool true)]) (
             .prim (.fld 0) [.v 11] <|
             .prim (.bin .gtr) [.v 32, .c (.int .i64 0)] <|
             .ite (.v 33) (
              .prim (.fld 0) [.v 20] <|
              .prim (.fld 0) [.v 11] <|
              .prim (.bin .neq) [.v 34, .v 35] <|
              .jmp 0 false [.v 36]) (
              .jmp 0 false [.c (.bool false)]))) (
            .prim (.fld 0) [.v 11] <|
            .prim (.bin .gtr) [.v 29, .c (.int .i64 0)] <|
            .ite (.v 30) (
             .prim (.fld 0) [.v 20] <|
             .prim (.fld 0) [.v 11] <|
             .prim (.bin .neq) [.v 31, .v 32] <|
             .jmp 0 false [.v 33]) (
             .jmp 0 false [.c (.bool false)]))))) 1 <|
        .ite (.v 23) (
         .jmp 3 false [.c (.bool false)]) (
         .sub1 [] (
          .loop [.int .i64] [.c (.int .i64 0)] (
           .prim (.bin .lss) [.v 24, .v 6] <|
           .ite (.v 25) (
            .sub0 [.bool] (
             .prim (.fld 1) [.v 11] <|
             .prim .get [.v 26, .v 24] <|
             .ite (.v 27) (
              .prim (.fld 1) [.v 20] <|
              .prim .get [.v 28, .v 24] <|
              .prim (.un .not) [.v 29] <|
              .ite (.v 30) (
               .prim (.fld 0) [.v 20] <|
               .prim (.bin .add) [.v 24, .c (.int .i64 1)] <|
               .prim (.bin .neq) [.v 31, .v 32] <|
               .jmp 0 false [.v 33]) (
               .jmp 0 false [.c (.bool false)])) (
              .jmp 0 false [.c (.bool false)])) 1 <|
            .ite (.v 26) (
             .jmp 5 false [.c (.bool false)]) (
             .prim (.bin .add) [.v 24, .c (.int .i64 1)] <|
             .jmp 0 true [.v 27])) (
            .jmp 1 false []))) 0 <|
         .jmp 0 false [.v 20])) (
        .prim (.bin .eql) [.v 18, .c (.int .u8 1)] <|
        .sub1 [tEntry] (
         .ite (.v 20) (
          .call 17 F_direc_Write [.v 11, .v 16] 4 <|
          .sub0 [.bool] (
           .prim (.bin .neq) [.v 24, .c (.int .i64 0)] <|
           .ite (.v 25) (
            .jmp 0 false [.c (.bool true)]) (
            .prim (.fld 0) [.v 11] <|
            .prim (.bin .neq) [.v 22, .v 26] <|
            .ite (.v 27) (
             .jmp 0 false [.c (.bool true)]) (
             .prim (.fld 0) [.v 21] <|
             .prim (.bin .add) [.v 16, .c (.int .i64 1)] <|
             .prim (.bin .neq) [.v 28, .v 29] <|
             .ite (.v 30) (
              .jmp 0 false [.c (.bool true)]) (
              .call 18 F_direc_Alone [.v 21] 1 <|
              .prim (.un .not) [.v 31] <|
              .jmp 0 false [.v 32])))) 1 <|
          .ite (.v 25) (
           .jmp 4 false [.c (.bool false)]) (
           .sub0 [.int .i64] (
            .loop [.int .i64, .int .i64] [.c (.int .i64 0), .c (.int .i64 0)] (
             .prim (.bin .lss) [.v 27, .v 6] <|
             .ite (.v 28) (
              .sub0 [.bool] (
               .prim (.fld 1) [.v 11] <|
               .prim .get [.v 29, .v 27] <|
               .ite (.v 30) (
                .prim (.bin .neq) [.v 27, .v 16] <|
                .jmp 0 false [.v 31]) (
                .jmp 0 false [.c (.bool false)])) 1 <|
              .subp [.int .i64] (
               .ite (.v 29) (
                .prim (.bin .add) [.v 26, .c (.int .i64 1)] <|
                .jmp 0 false [.v 30]) (
                .jmp 0 false [.v 26])) 1 <|
              .prim (.bin .add) [.v 27, .c (.int .i64 1)] <|
              .jmp 0 true [.v 30, .v 31]) (
              .jmp 1 false [.v 26]))) 1 <|
           .sub1 [] (
            .loop [.int .i64] [.c (.int .i64 0)] (
             .prim .len [.v 23] <|
             .prim (.bin .lss) [.v 27, .v 28] <|
             .ite (.v 29) (
              .sub0 [.bool] (
               .prim .get [.v 23, .v 27] <|
               .prim (.bin .eql) [.v 30, .v 16] <|
               .ite (.v 31) (
                .jmp 0 false [.c (.bool true)]) (
                .prim (.fld 1) [.v 11] <|
                .prim .get [.v 23, .v 27] <|
                .prim .get [.v 32, .v 33] <|
                .prim (.un .not) [.v 34] <|
                .ite (.v 35) (
                 .jmp 0 false [.c (.bool true)]) (
                 .prim (.bin .gtr) [.v 27, .c (.int .i64 0)] <|
                 .ite (.v 36) (
                  .prim .get [.v 23, .v 27] <|
                  .prim (.bin .sub) [.v 27, .c (.int .i64 1)] <|
                  .prim .get [.v 23, .v 38] <|
                  .prim (.bin .leq) [.v 37, .v 39] <|
                  .jmp 0 false [.v 40]) (
                  .jmp 0 false [.c (.bool false)])))) 1 <|
              .ite (.v 30) (
               .jmp 6 false [.c (.bool false)]) (
               .prim (.bin .add) [.v 27, .c (.int .i64 1)] <|
               .jmp 0 true [.v 31])) (
              .jmp 1 false []))) 0 <|
           .prim .len [.v 23] <|
           .prim (.bin .neq) [.v 26, .v 27] <|
           .ite (.v 28) (
            .jmp 4 false [.c (.bool false)]) (
            .jmp 0 false [.v 21]))) (
          .call 29 F_direc_Back [.v 11, .v 16] 2 <|
          .subp [.bool] (
           .prim (.bin .eql) [.v 22, .c (.int .i64 0)] <|
           .prim (.fld 0) [.v 11] <|
           .prim (.bin .add) [.v 16, .c (.int .i64 1)] <|
           .prim (.bin .eql) [.v 24, .v 25] <|
           .prim (.bin .neq) [.v 23, .v 26] <|
           .ite (.v 27) (
            .jmp 0 false [.c (.bool true)]) (
            .prim (.bin .eql) [.v 22, .c (.int .i64 0)] <|
            .ite (.v 28) (
             .prim (.fld 0) [.v 21] <|
             .prim (.bin .neq) [.v 29, .c (.int .i64 0)] <|
             .jmp 0 false [.v 30]) (
             .jmp 0 false [.c (.bool false)]))) 1 <|
          .ite (.v 23) (
           .jmp 4 false [.c (.bool false)]) (
           .jmp 0 false [.v 21]))) 1 <|
        .jmp 0 false [.v 21])) 1 <|
      .call 34 F_direc_May [.v 20, .v 6] 1 <|
      .prim (.un .not) [.v 21] <|
      .ite (.v 22) (
       .jmp 2 false [.c (.bool false)]) (
       .prim (.bin .add) [.v 10, .c (.int .i64 1)] <|
       .jmp 0 true [.v 23, .v 20])) (
      .jmp 1 false []))) 0 <|
   .jmp 0 false [.c (.bool true)]))
theorem a_l09_DirecOne : treeOf cx 12 6 = some A_l09_DirecOne.erase := by kernel_rfl
theorem k_l09_DirecOne : FnOk cx 12 noC 6 F_l09_DirecOne := fn_ok (t := A_l09_DirecOne) a_l09_DirecOne (fun _ => rfl) (ok_of [(14, F_l09_awake.fn), (15, F_direc_New), (16, F_direc_Read), (17, F_direc_Write), (18, F_direc_Alone), (29, F_direc_Back), (34, F_direc_May)] (by kernel_rfl) (.cons k_l09_awake (.cons k_direc_New (.cons k_direc_Read (.cons k_direc_Write (.cons k_direc_Alone (.cons k_direc_Back (.cons k_direc_May .nil)))))))) (fun x => by kernel_rfl)

end Go.Proofs.Ytklkpogdghiagaa
