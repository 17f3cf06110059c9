/- More functions of this cut as functions of plain typed data. Printed by a program of this claim's prover; each is checked here to be what the executor makes of the code. -/
import Derived.Test.YtflnpiknckdmfaaD072
set_option linter.unusedVariables false
set_option maxRecDepth 100000
namespace Go.Proofs.Ytflnpiknckdmfaa
open Go.SX
/-! 6: backstay/backstaylaw07.ParityRebuilds -/
noncomputable def l07_ParityRebuilds_L1 (x11 : Int) (x21 : List (List Int)) (x23 : Int) (x25 : Banks) (x33 : Banks) (x36 : Int) (s : Int) : Option (Int ⊕ Unit ⊕ Int ⊕ Unit ⊕ Bool) :=
  if decide (s < x11) then
    (parity_Read x25 x36 s).bind fun v40 =>
    (parity_Read x33 x36 s).bind fun v42 =>
    (
      if !decide (v42.2 = (0 : Int)) then
        some (true)
      else
        (idxO (List.length x21 : Int) x36).bind fun v45 =>
        (idxO (List.length x21 : Int) v45).bind fun v46 =>
        (getO x21 v46).bind fun v47 =>
        (idxO (List.length v47 : Int) s).bind fun v48 =>
        (getO x21 v46).bind fun v49 =>
        (getO v49 v48).bind fun v50 =>
        if !decide (v42.1 = v50) then
          some (true)
        else
          if decide (x36 = x23) then
            if !decide (v40.2 = (8 : Int)) then
              some (true)
            else
              if !decide (v40.1 = (0 : Int)) then
                some (true)
              else
                if !decide (x36 = x23) then
                  if !decide (v40.2 = (0 : Int)) then
                    some (true)
                  else
                    some ((!decide (v40.1 = v42.1)))
                else
                  some (false)
          else
            if !decide (x36 = x23) then
              if !decide (v40.2 = (0 : Int)) then
                some (true)
              else
                some ((!decide (v40.1 = v42.1)))
            else
              some (false) : Option Bool).bind fun v44 =>
    if v44 then
      some (Sum.inr (Sum.inr (Sum.inr (Sum.inr (false)))))
    else
      some (Sum.inl (w64 (s + (1 : Int))))
  else
    some (Sum.inr (Sum.inl ()))
noncomputable def l07_ParityRebuilds_L2 (x8 : Int) (x11 : Int) (x21 : List (List Int)) (x23 : Int) (x25 : Banks) (x33 : Banks) (s : Int) : Option (Int ⊕ Unit ⊕ Bool) :=
  if decide (s < x8) then
    orExit (
      loopD (l07_ParityRebuilds_L1 x11 x21 x23 x25 x33 s) (0 : Int) : Option (Unit ⊕ Int ⊕ Unit ⊕ Bool)) fun v38 =>
    some (Sum.inl (w64 (s + (1 : Int))))
  else
    some (Sum.inr (Sum.inl ()))
noncomputable def l07_ParityRebuilds_L3 (x2 : List l07_Put) (x8 : Int) (x11 : Int) (s : (Int × (List (List Int)) × (List Int) × Int × (List (List Int)))) : Option ((Int × (List (List Int)) × (List Int) × Int × (List (List Int))) ⊕ ((List (List Int)) × (List Int) × Int × (List (List Int))) ⊕ Bool) :=
  if (decide (s.1 < (List.length x2 : Int))) && (decide (s.1 < (150 : Int))) then
    (getO x2 s.1).bind fun v24 =>
    (remO (w64 (l07_Put.Bank v24)) x8).bind fun v27 =>
    (getO x2 s.1).bind fun v28 =>
    (remO (w64 (l07_Put.At v28)) x11).bind fun v31 =>
    (getO x2 s.1).bind fun v32 =>
    (parity_Write (Banks.mk s.2.1 s.2.2.1 s.2.2.2.1) v27 v31 (l07_Put.Word v32)).bind fun v35 =>
    if !decide (v35.2 = (0 : Int)) then
      some (Sum.inr (Sum.inr (false)))
    else
      (idxO (List.length s.2.2.2.2 : Int) v27).bind fun v38 =>
      (idxO (List.length s.2.2.2.2 : Int) v38).bind fun v39 =>
      (getO x2 s.1).bind fun v40 =>
      (getO s.2.2.2.2 v39).bind fun v42 =>
      (idxO (List.length v42 : Int) v31).bind fun v43 =>
      (getO s.2.2.2.2 v39).bind fun v44 =>
      (setO v44 v43 (l07_Put.Word v40)).bind fun v45 =>
      (setO s.2.2.2.2 v39 v45).bind fun v46 =>
      some (Sum.inl (w64 (s.1 + (1 : Int)), Banks.Rows v35.1, Banks.Par v35.1, Banks.Lost v35.1, v46))
  else
    some (Sum.inr (Sum.inl (s.2.1, s.2.2.1, s.2.2.2.1, s.2.2.2.2)))
noncomputable def l07_ParityRebuilds_L4 (x8 : Int) (x11 : Int) (s : (Int × (List (List Int)))) : Option ((Int × (List (List Int))) ⊕ (List (List Int))) :=
  if decide (s.1 < x8) then
    (repO (0 : Int) 4 x11 x11).bind fun v20 =>
    (idxO (List.length s.2 : Int) s.1).bind fun v21 =>
    (setO s.2 v21 v20).bind fun v22 =>
    some (Sum.inl (w64 (s.1 + (1 : Int)), v22))
  else
    some (Sum.inr (s.2))
noncomputable def l07_ParityRebuilds_L5 (x8 : Int) (x11 : Int) (s : (Int × (List (List Int)))) : Option ((Int × (List (List Int))) ⊕ (List (List Int))) :=
  if decide (s.1 < x8) then
    (repO (0 : Int) 4 x11 x11).bind fun v17 =>
    (appO 24 s.2 ([v17] : List (List Int))).bind fun v19 =>
    some (Sum.inl (w64 (s.1 + (1 : Int)), v19))
  else
    some (Sum.inr (s.2))
noncomputable def l07_ParityRebuilds (p0 : Int) (p1 : Int) (p2 : List l07_Put) (p3 : Int) : Option Bool :=
  if !l07_awake then
    some (false)
  else
    (remO p0 (8 : Int)).bind fun v6 =>
    let v8 : Int := w64 ((w64 v6) + (1 : Int))
    (remO p1 (16 : Int)).bind fun v9 =>
    let v11 : Int := w64 ((w64 v9) + (1 : Int))
    (
      if (decide (v8 < (1 : Int))) || ((decide ((8 : Int) < v8)) || ((decide (v11 < (1 : Int))) || (decide ((64 : Int) < v11)))) then
        some (((1 : Int), ([] : List (List Int)), ([] : List Int)))
      else
        (repO (0 : Int) 4 v11 v11).bind fun v13 =>
        (
          loopD (l07_ParityRebuilds_L5 v8 v11) ((0 : Int), ([] : List (List Int))) : Option (List (List Int))).bind fun v14 =>
        some (((0 : Int), v14, v13)) : Option (Int × (List (List Int)) × (List Int))).bind fun v12 =>
    if !decide (v12.1 = (0 : Int)) then
      some (false)
    else
      (repO ([] : List Int) 24 v8 v8).bind fun v16 =>
      (
        loopD (l07_ParityRebuilds_L4 v8 v11) ((0 : Int), v16) : Option (List (List Int))).bind fun v17 =>
      orExit (
        loopD (l07_ParityRebuilds_L3 p2 v8 v11) ((0 : Int), v12.2.1, v12.2.2, (0 : Int), v17) : Option (((List (List Int)) × (List Int) × Int × (List (List Int))) ⊕ Bool)) fun v18 =>
      (remO (w64 p3) v8).bind fun v23 =>
      (parity_Lose (Banks.mk v18.1 v18.2.1 v18.2.2.1) v23).bind fun v25 =>
      (remO (w64 (v23 + (1 : Int))) v8).bind fun v28 =>
      (parity_Write v25.1 v28 (0 : Int) (7 : Int)).bind fun v29 =>
      (parity_Lose v25.1 v23).bind fun v31 =>
      (parity_Rebuild v25.1).bind fun v33 =>
      (
        if !decide (v25.2 = (0 : Int)) then
          some (true)
        else
          if !decide (v29.2 = (8 : Int)) then
            some (true)
          else
            if !decide (v31.2 = (8 : Int)) then
              some (true)
            else
              if !decide (v33.2 = (0 : Int)) then
                some (true)
              else
                (parity_Right v25.1).bind fun v39 =>
                if !v39 then
                  some (true)
                else
                  (parity_Right v33.1).bind fun v41 =>
                  some ((!v41)) : Option Bool).bind fun v35 =>
      if v35 then
        some (false)
      else
        orExit (
          loopD (l07_ParityRebuilds_L2 v8 v11 v18.2.2.2 v23 v25.1 v33.1) (0 : Int) : Option (Unit ⊕ Bool)) fun v36 =>
        some (true)
noncomputable def F_l07_ParityRebuilds : FnT := ⟨[.int .u8, .int .u8, .sl tl07_Put, .int .u8], [.bool], fun x => l07_ParityRebuilds x.1 x.2.1 x.2.2.1 x.2.2.2⟩
noncomputable def A_l07_ParityRebuilds : TA :=
 .callp 25 F_l07_awake [] 1 <|
 .prim (.un .not) [.v 4] <|
 .ite (.v 5) (
  .jmp 0 false [.c (.bool false)]) (
  .prim (.bin .rem) [.v 0, .c (.int .u8 8)] <|
  .prim (.conv .i64) [.v 6] <|
  .prim (.bin .add) [.v 7, .c (.int .i64 1)] <|
  .prim (.bin .rem) [.v 1, .c (.int .u8 16)] <|
  .prim (.conv .i64) [.v 9] <|
  .prim (.bin .add) [.v 10, .c (.int .i64 1)] <|
  .sub0 [.int .i64, .sl (.sl (.int .u32)), .sl (.int .u32)] (
   .subp [.bool] (
    .prim (.bin .lss) [.v 8, .c (.int .i64 1)] <|
    .ite (.v 12) (
     .jmp 0 false [.c (.bool true)]) (
     .prim (.bin .gtr) [.v 8, .c (.int .i64 8)] <|
     .ite (.v 13) (
      .jmp 0 false [.c (.bool true)]) (
      .prim (.bin .lss) [.v 11, .c (.int .i64 1)] <|
      .ite (.v 14) (
       .jmp 0 false [.c (.bool true)]) (
       .prim (.bin .gtr) [.v 11, .c (.int .i64 64)] <|
       .jmp 0 false [.v 15])))) 1 <|
   .ite (.v 12) (
    .jmp 0 false [.c (.int .i64 1), .c .nil, .c .nil]) (
    .primH (.rep (.int .u32 0) 4) (.sl (.int .u32)) [.v 11, .v 11] <|
    .sub0 [.sl (.sl (.int .u32))] (
     .loop [.int .i64, .sl (.sl (.int .u32))] [.c (.int .i64 0), .c .nil] (
      .prim (.bin .lss) [.v 14, .v 8] <|
      .ite (.v 16) (
       .primH (.rep (.int .u32 0) 4) (.sl (.int .u32)) [.v 11, .v 11] <|
       .mkL (.sl (.int .u32)) [.v 17] <|
       .prim (.app 24) [.v 15, .v 18] <|
       .prim (.bin .add) [.v 14, .c (.int .i64 1)] <|
       .jmp 0 true [.v 20, .v 19]) (
       .jmp 1 false [.v 15]))) 1 <|
    .jmp 0 false [.c (.int .i64 0), .v 14, .v 13])) 3 <|
  .prim (.bin .neq) [.v 12, .c (.int .i64 0)] <|
  .ite (.v 15) (
   .jmp 0 false [.c (.bool false)]) (
   .primH (.rep .nil 24) (.sl (.sl (.int .u32))) [.v 8, .v 8] <|
   .sub0 [.sl (.sl (.int .u32))] (
    .loop [.int .i64, .sl (.sl (.int .u32))] [.c (.int .i64 0), .v 16] (
     .prim (.bin .lss) [.v 17, .v 8] <|
     .ite (.v 19) (
      .primH (.rep (.int .u32 0) 4) (.sl (.int .u32)) [.v 11, .v 11] <|
      .prim .idx [.v 18, .v 17] <|
      .prim .set [.v 18, .v 21, .v 20] <|
      .prim (.bin .add) [.v 17, .c (.int .i64 1)] <|
      .jmp 0 true [.v 23, .v 22]) (
      .jmp 1 false [.v 18]))) 1 <|
   .sub1 [.sl (.sl (.int .u32)), .sl (.int .u32), .int .i64, .sl (.sl (.int .u32))] (
    .loop [.int .i64, .sl (.sl (.int .u32)), .sl (.int .u32), .int .i64, .sl (.sl (.int .u32))] [.c (.int .i64 0), .v 13, .v 14, .c (.int .i64 0), .v 17] (
     .subp [.bool] (
      .prim .len [.v 2] <|
      .prim (.bin .lss) [.v 18, .v 23] <|
      .ite (.v 24) (
       .prim (.bin .lss) [.v 18, .c (.int .i64 150)] <|
       .jmp 0 false [.v 25]) (
       .jmp 0 false [.c (.bool false)])) 1 <|
     .ite (.v 23) (
      .prim .get [.v 2, .v 18] <|
      .prim (.fld 0) [.v 24] <|
      .prim (.conv .i64) [.v 25] <|
      .prim (.bin .rem) [.v 26, .v 8] <|
      .prim .get [.v 2, .v 18] <|
      .prim (.fld 1) [.v 28] <|
      .prim (.conv .i64) [.v 29] <|
      .prim (.bin .rem) [.v 30, .v 11] <|
      .prim .get [.v 2, .v 18] <|
      .prim (.fld 2) [.v 32] <|
      .mkS tsBanks [.v 19, .v 20, .v 21] <|
      .call 29 F_parity_Write [.v 34, .v 27, .v 31, .v 33] 2 <|
      .prim (.bin .neq) [.v 36, .c (.int .i64 0)] <|
      .ite (.v 37) (
       .jmp 2 false [.c (.bool false)]) (
       .prim .idx [.v 22, .v 27] <|
       .prim .idx [.v 22, .v 38] <|
       .prim .get [.v 2, .v 18] <|
       .prim (.fld 2) [.v 40] <|
       .prim .get [.v 22, .v 39] <|
       .prim .idx [.v 42, .v 31] <|
       .prim .get [.v 22, .v 39] <|
       .prim .set [.v 44, .v 43, .v 41] <|
       .prim .set [.v 22, .v 39, .v 45] <|
       .prim (.bin .add) [.v 18, .c (.int .i64 1)] <|
       .prim (.fld 0) [.v 35] <|
       .prim (.fld 1) [.v 35] <|
       .prim (.fld 2) [.v 35] <|
       .jmp 0 true [.v 47, .v 48, .v 49, .v 50, .v 46])) (
      .jmp 1 false [.v 19, .v 20, .v 21, .v 22]))) 4 <|
   .prim (.conv .i64) [.v 3] <|
   .prim (.bin .rem) [.v 22, .v 8] <|
   .mkS tsBanks [.v 18, .v 19, .v 20] <|
   .call 32 F_parity_Lose [.v 24, .v 23] 2 <|
   .prim (.bin .add) [.v 23, .c (.int .i64 1)] <|
   .prim (.bin .rem) [.v 27, .v 8] <|
   .call 29 F_parity_Write [.v 25, .v 28, .c (.int .i64 0), .c (.int .u32 7)] 2 <|
   .call 32 F_parity_Lose [.v 25, .v 23] 2 <|
   .call 34 F_parity_Rebuild [.v 25] 2 <|
   .sub0 [.bool] (
    .prim (.bin .neq) [.v 26, .c (.int .i64 0)] <|
    .ite (.v 35) (
     .jmp 0 false [.c (.bool true)]) (
     .prim (.bin .neq) [.v 30, .c (.int .i64 8)] <|
     .ite (.v 36) (
      .jmp 0 false [.c (.bool true)]) (
      .prim (.bin .neq) [.v 32, .c (.int .i64 8)] <|
      .ite (.v 37) (
       .jmp 0 false [.c (.bool true)]) (
       .prim (.bin .neq) [.v 34, .c (.int .i64 0)] <|
       .ite (.v 38) (
        .jmp 0 false [.c (.bool true)]) (
        .call 38 F_parity_Right [.v 25] 1 <|
        .prim (.un .not) [.v 39] <|
        .ite (.v 40) (
         .jmp 0 false [.c (.bool true)]) (
         .call 38 F_parity_Right [.v 33] 1 <|
         .prim (.un .not) [.v 41] <|
         .jmp 0 false [.v 42])))))) 1 <|
   .ite (.v 35) (
    .jmp 0 false [.c (.bool false)]) (
    .sub1 [] (
     .loop [.int .i64] [.c (.int .i64 0)] (
      .prim (.bin .lss) [.v 36, .v 8] <|
      .ite (.v 37) (
       .sub1 [] (
        .loop [.int .i64] [.c (.int .i64 0)] (
         .prim (.bin .lss) [.v 38, .v 11] <|
         .ite (.v 39) (
          .call 27 F_parity_Read [.v 25, .v 36, .v 38] 2 <|
          .call 27 F_parity_Read [.v 33, .v 36, .v 38] 2 <|
          .sub0 [.bool] (
           .prim (.bin .neq) [.v 43, .c (.int .i64 0)] <|
           .ite (.v 44) (
            .jmp 0 false [.c (.bool true)]) (
            .prim .idx [.v 21, .v 36] <|
            .prim .idx [.v 21, .v 45] <|
            .prim .get [.v 21, .v 46] <|
            .prim .idx [.v 47, .v 38] <|
            .prim .get [.v 21, .v 46] <|
            .prim .get [.v 49, .v 48] <|
            .prim (.bin .neq) [.v 42, .v 50] <|
            .ite (.v 51) (
             .jmp 0 false [.c (.bool true)]) (
             .prim (.bin .eql) [.v 36, .v 23] <|
             .ite (.v 52) (
              .prim (.bin .neq) [.v 41, .c (.int .i64 8)] <|
              .ite (.v 53) (
               .jmp 0 false [.c (.bool true)]) (
               .prim (.bin .neq) [.v 40, .c (.int .u32 0)] <|
               .ite (.v 54) (
                .jmp 0 false [.c (.bool true)]) (
                .prim (.bin .neq) [.v 36, .v 23] <|
                .ite (.v 55) (
                 .prim (.bin .neq) [.v 41, .c (.int .i64 0)] <|
                 .ite (.v 56) (
                  .jmp 0 false [.c (.bool true)]) (
                  .prim (.bin .neq) [.v 40, .v 42] <|
                  .jmp 0 false [.v 57])) (
                 .jmp 0 false [.c (.bool false)])))) (
              .prim (.bin .neq) [.v 36, .v 23] <|
              .ite (.v 53) (
               .prim (.bin .neq) [.v 41, .c (.int .i64 0)] <|
               .ite (.v 54) (
                .jmp 0 false [.c (.bool true)]) (
                .prim (.bin .neq) [.v 40, .v 42] <|
                .jmp 0 false [.v 55])) (
               .jmp 0 false [.c (.bool false)]))))) 1 <|
          .ite (.v 44) (
           .jmp 4 false [.c (.bool false)]) (
           .prim (.bin .add) [.v 38, .c (.int .i64 1)] <|
           .jmp 0 true [.v 45])) (
          .jmp 1 false []))) 0 <|
       .prim (.bin .add) [.v 36, .c (.int .i64 1)] <|
       .jmp 0 true [.v 38]) (
       .jmp 1 false []))) 0 <|
    .jmp 0 false [.c (.bool true)])))
theorem a_l07_ParityRebuilds : treeOf cx 12 6 = some A_l07_ParityRebuilds.erase := by kernel_rfl
theorem k_l07_ParityRebuilds : FnOk cx 12 noC 6 F_l07_ParityRebuilds := fn_ok (t := A_l07_ParityRebuilds) a_l07_ParityRebuilds (fun _ => rfl) (ok_of [(25, F_l07_awake.fn), (29, F_parity_Write), (32, F_parity_Lose), (29, F_parity_Write), (32, F_parity_Lose), (34, F_parity_Rebuild), (38, F_parity_Right), (38, F_parity_Right), (27, F_parity_Read), (27, F_parity_Read)] (by kernel_rfl) (.cons k_l07_awake (.cons k_parity_Write (.cons k_parity_Lose (.cons k_parity_Write (.cons k_parity_Lose (.cons k_parity_Rebuild (.cons k_parity_Right (.cons k_parity_Right (.cons k_parity_Read (.cons k_parity_Read .nil))))))))))) (fun x => by kernel_rfl)

end Go.Proofs.Ytflnpiknckdmfaa
