/- More functions of this cut as functions of plain typed data. Printed by a program of this claim's prover; each is checked here to be what the executor makes of the code. -/
import Derived.Test.YtihchahfnhoapaaD161
set_option linter.unusedVariables false
set_option maxRecDepth 100000
namespace Go.Proofs.Ytihchahfnhoapaa
open Go.SX
/-! 8: backstay/backstaylaw06.PoolKeeps -/
noncomputable def l06_PoolKeeps_L1 (x6 : List (List Int)) (x11 : Int) (x22 : Int) (s : (Int × Int)) : Option ((Int × Int) ⊕ Int) :=
  if decide (s.2 < (8 : Int)) then
    (idxO (List.length x6 : Int) x11).bind fun v27 =>
    (idxO (19 : Int) x22).bind fun v28 =>
    (getO x6 v27).bind fun v29 =>
    (getO v29 v28).bind fun v30 =>
    (shrO .u8 v30 (wu64 s.2)).bind fun v32 =>
    some (Sum.inl (bif decide ((bAnd .u8 v32 (1 : Int)) = (1 : Int)) then w64 (s.1 + (1 : Int)) else s.1, w64 (s.2 + (1 : Int))))
  else
    some (Sum.inr (s.1))
noncomputable def l06_PoolKeeps_L2 (x6 : List (List Int)) (x11 : Int) (s : (Int × Int)) : Option ((Int × Int) ⊕ Int) :=
  if decide (s.2 < (19 : Int)) then
    (
      loopD (l06_PoolKeeps_L1 x6 x11 s.2) (s.1, (0 : Int)) : Option Int).bind fun v24 =>
    some (Sum.inl (v24, w64 (s.2 + (1 : Int))))
  else
    some (Sum.inr (s.1))
noncomputable def l06_PoolKeeps_L3 (x0 : List l06_Do) (s : (Int × Pool × (List Msg) × (List (List Int)))) : Option ((Int × Pool × (List Msg) × (List (List Int))) ⊕ Unit ⊕ Bool) :=
  if (decide (s.1 < (List.length x0 : Int))) && (decide (s.1 < (100 : Int))) then
    orExit (
      (getO x0 s.1).bind fun v8 =>
      (
        if decide ((0 : Int) < (List.length s.2.2.1 : Int)) then
          (remO (w64 (l06_Do.At v8)) (List.length s.2.2.1 : Int)).bind fun v14 =>
          some (v14)
        else
          some ((0 : Int)) : Option Int).bind fun v11 =>
      (remO (l06_Do.Kind v8) (5 : Int)).bind fun v13 =>
      orExit (
        if decide (v13 = (0 : Int)) then
          (pool_Send s.2.1 (l06_Do.Msg v8)).bind fun v16 =>
          (
            let v18 : Bool := decide (v16.2 = (0 : Int))
            if decide ((List.length s.2.2.1 : Int) < (64 : Int)) then
              (r05_May (l06_Do.Msg v8)).bind fun v22 =>
              some ((!decide (v18 = v22)))
            else
              some ((!decide (v18 = false))) : Option Bool).bind fun v18 =>
          if v18 then
            some (Sum.inr (Sum.inr (Sum.inr (Sum.inr (false)))))
          else
            (
              if decide (v16.2 = (0 : Int)) then
                (appO 64 s.2.2.1 ([l06_Do.Msg v8] : List Msg)).bind fun v22 =>
                (appO 19 s.2.2.2 ([([(0 : Int), (0 : Int), (0 : Int), (0 : Int), (0 : Int), (0 : Int), (0 : Int), (0 : Int), (0 : Int), (0 : Int), (0 : Int), (0 : Int), (0 : Int), (0 : Int), (0 : Int), (0 : Int), (0 : Int), (0 : Int), (0 : Int)] : List Int)] : List (List Int))).bind fun v23 =>
                some ((v22, v23))
              else
                some ((s.2.2.1, s.2.2.2)) : Option ((List Msg) × (List (List Int)))).bind fun v20 =>
            some (Sum.inl (v16.1, v20.1, v20.2))
        else
          orExit (
            if decide (v13 = (1 : Int)) then
              (pool_Take s.2.1 v11).bind fun v16 =>
              if decide ((List.length s.2.2.1 : Int) = (0 : Int)) then
                if !decide (v16.2.2 = (7 : Int)) then
                  some (Sum.inr (Sum.inr (Sum.inr (Sum.inr (Sum.inr (false))))))
                else
                  some (Sum.inr (Sum.inr (Sum.inl (s.2.1, s.2.2.1, s.2.2.2))))
              else
                (
                  loopD (l06_PoolKeeps_L2 s.2.2.2 v11) ((0 : Int), (0 : Int)) : Option Int).bind fun v21 =>
                (
                  if decide (v21 = (0 : Int)) then
                    if !decide (v16.2.2 = (0 : Int)) then
                      some (true)
                    else
                      (idxO (List.length s.2.2.1 : Int) v11).bind fun v24 =>
                      (getO s.2.2.1 v24).bind fun v25 =>
                      if !(@decide (v16.2.1 = v25) (Ty.dec tMsg _ _)) then
                        some (true)
                      else
                        if decide (v21 = (1 : Int)) then
                          some ((!decide (v16.2.2 = (5 : Int))))
                        else
                          some (false)
                  else
                    if decide (v21 = (1 : Int)) then
                      some ((!decide (v16.2.2 = (5 : Int))))
                    else
                      some (false) : Option Bool).bind fun v22 =>
                if v22 then
                  some (Sum.inr (Sum.inr (Sum.inr (Sum.inr (Sum.inr (false))))))
                else
                  (rngO (List.length s.2.2.1 : Int) (0 : Int) v11).bind fun v24 =>
                  (subO s.2.2.1 (0 : Int) v24).bind fun v25 =>
                  (appO 64 ([] : List Msg) v25).bind fun v26 =>
                  let v27 : Int := w64 (v11 + (1 : Int))
                  (rngO (List.length s.2.2.1 : Int) v27 (List.length s.2.2.1 : Int)).bind fun v29 =>
                  (subO s.2.2.1 v27 v29).bind fun v30 =>
                  (appO 64 v26 v30).bind fun v31 =>
                  (rngO (List.length s.2.2.2 : Int) (0 : Int) v11).bind fun v33 =>
                  (subO s.2.2.2 (0 : Int) v33).bind fun v34 =>
                  (appO 19 ([] : List (List Int)) v34).bind fun v35 =>
                  let v36 : Int := w64 (v11 + (1 : Int))
                  (rngO (List.length s.2.2.2 : Int) v36 (List.length s.2.2.2 : Int)).bind fun v38 =>
                  (subO s.2.2.2 v36 v38).bind fun v39 =>
                  (appO 19 v35 v39).bind fun v40 =>
                  some (Sum.inl (v16.1, v31, v40))
            else
              orExit (
                if decide (v13 = (2 : Int)) then
                  (pool_Drop s.2.1 v11).bind fun v17 =>
                  if !decide ((decide (v17.2 = (0 : Int))) = (decide ((0 : Int) < (List.length s.2.2.1 : Int)))) then
                    some (Sum.inr (Sum.inr (Sum.inr (Sum.inr (Sum.inr (Sum.inr (false)))))))
                  else
                    (
                      if decide (v17.2 = (0 : Int)) then
                        (rngO (List.length s.2.2.1 : Int) (0 : Int) v11).bind fun v25 =>
                        (subO s.2.2.1 (0 : Int) v25).bind fun v26 =>
                        (appO 64 ([] : List Msg) v26).bind fun v27 =>
                        let v28 : Int := w64 (v11 + (1 : Int))
                        (rngO (List.length s.2.2.1 : Int) v28 (List.length s.2.2.1 : Int)).bind fun v30 =>
                        (subO s.2.2.1 v28 v30).bind fun v31 =>
                        (appO 64 v27 v31).bind fun v32 =>
                        (rngO (List.length s.2.2.2 : Int) (0 : Int) v11).bind fun v34 =>
                        (subO s.2.2.2 (0 : Int) v34).bind fun v35 =>
                        (appO 19 ([] : List (List Int)) v35).bind fun v36 =>
                        let v37 : Int := w64 (v11 + (1 : Int))
                        (rngO (List.length s.2.2.2 : Int) v37 (List.length s.2.2.2 : Int)).bind fun v39 =>
                        (subO s.2.2.2 v37 v39).bind fun v40 =>
                        (appO 19 v36 v40).bind fun v41 =>
                        some ((v17.1, v32, v41))
                      else
                        some ((s.2.1, s.2.2.1, s.2.2.2)) : Option (Pool × (List Msg) × (List (List Int)))).bind fun v24 =>
                    some (Sum.inl (v24.1, v24.2.1, v24.2.2))
                else
                  orExit (
                    if decide (v13 = (3 : Int)) then
                      (pool_Twice s.2.1 v11).bind fun v18 =>
                      let v20_ : Bool := decide (v18.2 = (0 : Int))
                      if bif decide ((0 : Int) < (List.length s.2.2.1 : Int)) then !decide (v20_ = (decide ((List.length s.2.2.1 : Int) < (64 : Int)))) else !decide (v20_ = false) then
                        some (Sum.inr (Sum.inr (Sum.inr (Sum.inr (Sum.inr (Sum.inr (Sum.inr (false))))))))
                      else
                        (
                          if decide (v18.2 = (0 : Int)) then
                            (idxO (List.length s.2.2.1 : Int) v11).bind fun v22 =>
                            (getO s.2.2.1 v22).bind fun v23 =>
                            (appO 64 s.2.2.1 ([v23] : List Msg)).bind fun v25 =>
                            (idxO (List.length s.2.2.2 : Int) v11).bind fun v26 =>
                            (getO s.2.2.2 v26).bind fun v27 =>
                            (appO 19 s.2.2.2 ([v27] : List (List Int))).bind fun v29 =>
                            some ((v18.1, v25, v29))
                          else
                            some ((s.2.1, s.2.2.1, s.2.2.2)) : Option (Pool × (List Msg) × (List (List Int)))).bind fun v22 =>
                        some (Sum.inl (v22.1, v22.2.1, v22.2.2))
                    else
                      (remO (w64 (l06_Do.Bit v8)) (152 : Int)).bind fun v20 =>
                      (pool_Spoil s.2.1 v11 v20).bind fun v21 =>
                      if !decide ((decide (v21.2 = (0 : Int))) = (decide ((0 : Int) < (List.length s.2.2.1 : Int)))) then
                        some (Sum.inr (Sum.inr (Sum.inr (Sum.inr (Sum.inr (Sum.inr (Sum.inr (false))))))))
                      else
                        (
                          if decide (v21.2 = (0 : Int)) then
                            (appO 19 ([] : List (List Int)) s.2.2.2).bind fun v28 =>
                            (quoO .i64 v20 (8 : Int)).bind fun v29 =>
                            (quoO .i64 v20 (8 : Int)).bind fun v30 =>
                            (idxO (List.length v28 : Int) v11).bind fun v31 =>
                            (idxO (19 : Int) v30).bind fun v32 =>
                            (getO v28 v31).bind fun v33 =>
                            (getO v33 v32).bind fun v34 =>
                            (remO v20 (8 : Int)).bind fun v35 =>
                            (shlO .u8 (1 : Int) (wu64 v35)).bind fun v37 =>
                            (idxO (List.length v28 : Int) v11).bind fun v39 =>
                            (idxO (19 : Int) v29).bind fun v40 =>
                            (getO v28 v39).bind fun v41 =>
                            (setO v41 v40 (bXor .u8 v34 v37)).bind fun v42 =>
                            (setO v28 v39 v42).bind fun v43 =>
                            some ((v21.1, v43))
                          else
                            some ((s.2.1, s.2.2.2)) : Option (Pool × (List (List Int)))).bind fun v28 =>
                        some (Sum.inl (v28.1, s.2.2.1, v28.2)) : Option ((Pool × (List Msg) × (List (List Int))) ⊕ (Pool × (List Msg) × (List (List Int))) ⊕ (Pool × (List Msg) × (List (List Int))) ⊕ (Pool × (List Msg) × (List (List Int))) ⊕ (Pool × (List Msg) × (List (List Int))) ⊕ (Int × Pool × (List Msg) × (List (List Int))) ⊕ Unit ⊕ Bool)) fun v18 =>
                  some (Sum.inl (v18.1, v18.2.1, v18.2.2)) : Option ((Pool × (List Msg) × (List (List Int))) ⊕ (Pool × (List Msg) × (List (List Int))) ⊕ (Pool × (List Msg) × (List (List Int))) ⊕ (Pool × (List Msg) × (List (List Int))) ⊕ (Int × Pool × (List Msg) × (List (List Int))) ⊕ Unit ⊕ Bool)) fun v17 =>
              some (Sum.inl (v17.1, v17.2.1, v17.2.2)) : Option ((Pool × (List Msg) × (List (List Int))) ⊕ (Pool × (List Msg) × (List (List Int))) ⊕ (Pool × (List Msg) × (List (List Int))) ⊕ (Int × Pool × (List Msg) × (List (List Int))) ⊕ Unit ⊕ Bool)) fun v16 =>
          some (Sum.inl (v16.1, v16.2.1, v16.2.2)) : Option ((Pool × (List Msg) × (List (List Int))) ⊕ (Pool × (List Msg) × (List (List Int))) ⊕ (Int × Pool × (List Msg) × (List (List Int))) ⊕ Unit ⊕ Bool)) fun v15 =>
      (
        if !decide ((List.length (Pool.Frames v15.1) : Int) = (List.length v15.2.1 : Int)) then
          some (true)
        else
          (pool_Right v15.1).bind fun v22 =>
          some ((!v22)) : Option Bool).bind fun v18 =>
      if v18 then
        some (Sum.inr (Sum.inr (Sum.inr (false))))
      else
        some (Sum.inl (v15.1, v15.2.1, v15.2.2)) : Option ((Pool × (List Msg) × (List (List Int))) ⊕ (Int × Pool × (List Msg) × (List (List Int))) ⊕ Unit ⊕ Bool)) fun v8 =>
    some (Sum.inl (w64 (s.1 + (1 : Int)), v8.1, v8.2.1, v8.2.2))
  else
    some (Sum.inr (Sum.inl ()))
noncomputable def l06_PoolKeeps (p0 : List l06_Do) : Option Bool :=
  if !l06_awake then
    some (false)
  else
    orExit (
      loopD (l06_PoolKeeps_L3 p0) ((0 : Int), (Pool.mk ([] : List (List Int))), ([] : List Msg), ([] : List (List Int))) : Option (Unit ⊕ Bool)) fun v3 =>
    some (true)
noncomputable def F_l06_PoolKeeps : FnT := ⟨[.sl tl06_Do], [.bool], fun x => l06_PoolKeeps x⟩
noncomputable def A_l06_PoolKeeps : TA :=
 .callp 29 F_l06_awake [] 1 <|
 .prim (.un .not) [.v 1] <|
 .ite (.v 2) (
  .jmp 0 false [.c (.bool false)]) (
  .sub1 [] (
   .loop [.int .i64, tPool, .sl tMsg, .sl (.arr 19 (.int .u8))] [.c (.int .i64 0), .c (.agg [.nil]), .c .nil, .c .nil] (
    .subp [.bool] (
     .prim .len [.v 0] <|
     .prim (.bin .lss) [.v 3, .v 7] <|
     .ite (.v 8) (
      .prim (.bin .lss) [.v 3, .c (.int .i64 100)] <|
      .jmp 0 false [.v 9]) (
      .jmp 0 false [.c (.bool false)])) 1 <|
    .ite (.v 7) (
     .sub1 [tPool, .sl tMsg, .sl (.arr 19 (.int .u8))] (
      .prim .get [.v 0, .v 3] <|
      .prim .len [.v 5] <|
      .prim (.bin .gtr) [.v 9, .c (.int .i64 0)] <|
      .sub0 [.int .i64] (
       .ite (.v 10) (
        .prim (.fld 2) [.v 8] <|
        .prim (.conv .i64) [.v 11] <|
        .prim .len [.v 5] <|
        .prim (.bin .rem) [.v 12, .v 13] <|
        .jmp 0 false [.v 14]) (
        .jmp 0 false [.c (.int .i64 0)])) 1 <|
      .prim (.fld 0) [.v 8] <|
      .prim (.bin .rem) [.v 12, .c (.int .u8 5)] <|
      .prim (.bin .eql) [.v 13, .c (.int .u8 0)] <|
      .sub1 [tPool, .sl tMsg, .sl (.arr 19 (.int .u8))] (
       .ite (.v 14) (
        .prim (.fld 1) [.v 8] <|
        .call 30 F_pool_Send [.v 4, .v 15] 2 <|
        .sub0 [.bool] (
         .prim (.bin .eql) [.v 17, .c (.int .i64 0)] <|
         .prim .len [.v 5] <|
         .prim (.bin .lss) [.v 19, .c (.int .i64 64)] <|
         .ite (.v 20) (
          .prim (.fld 1) [.v 8] <|
          .call 52 F_r05_May [.v 21] 1 <|
          .prim (.bin .neq) [.v 18, .v 22] <|
          .jmp 0 false [.v 23]) (
          .prim (.bin .neq) [.v 18, .c (.bool false)] <|
          .jmp 0 false [.v 21])) 1 <|
        .ite (.v 18) (
         .jmp 4 false [.c (.bool false)]) (
         .prim (.bin .eql) [.v 17, .c (.int .i64 0)] <|
         .sub0 [.sl tMsg, .sl (.arr 19 (.int .u8))] (
          .ite (.v 19) (
           .prim (.fld 1) [.v 8] <|
           .mkL tMsg [.v 20] <|
           .prim (.app 64) [.v 5, .v 21] <|
           .primH (.app 19) (.sl (.arr 19 (.int .u8))) [.v 6, .c (.sl [(.agg [(.int .u8 0), (.int .u8 0), (.int .u8 0), (.int .u8 0), (.int .u8 0), (.int .u8 0), (.int .u8 0), (.int .u8 0), (.int .u8 0), (.int .u8 0), (.int .u8 0), (.int .u8 0), (.int .u8 0), (.int .u8 0), (.int .u8 0), (.int .u8 0), (.int .u8 0), (.int .u8 0), (.int .u8 0)])])] <|
           .jmp 0 false [.v 22, .v 23]) (
           .jmp 0 false [.v 5, .v 6])) 2 <|
         .jmp 0 false [.v 16, .v 20, .v 21])) (
        .prim (.bin .eql) [.v 13, .c (.int .u8 1)] <|
        .sub1 [tPool, .sl tMsg, .sl (.arr 19 (.int .u8))] (
         .ite (.v 15) (
          .call 31 F_pool_Take [.v 4, .v 11] 3 <|
          .prim .len [.v 5] <|
          .prim (.bin .eql) [.v 19, .c (.int .i64 0)] <|
          .ite (.v 20) (
           .prim (.bin .neq) [.v 18, .c (.int .i64 7)] <|
           .ite (.v 21) (
            .jmp 5 false [.c (.bool false)]) (
            .jmp 2 false [.v 4, .v 5, .v 6])) (
           .sub0 [.int .i64] (
            .loop [.int .i64, .int .i64] [.c (.int .i64 0), .c (.int .i64 0)] (
             .prim (.bin .lss) [.v 22, .c (.int .i64 19)] <|
             .ite (.v 23) (
              .sub0 [.int .i64] (
               .loop [.int .i64, .int .i64] [.v 21, .c (.int .i64 0)] (
                .prim (.bin .lss) [.v 25, .c (.int .i64 8)] <|
                .ite (.v 26) (
                 .prim .idx [.v 6, .v 11] <|
                 .prim (.idxn 19) [.v 22] <|
                 .prim .get [.v 6, .v 27] <|
                 .prim .get [.v 29, .v 28] <|
                 .prim (.conv .u64) [.v 25] <|
                 .prim (.bin .shr) [.v 30, .v 31] <|
                 .prim (.bin .and) [.v 32, .c (.int .u8 1)] <|
                 .prim (.bin .eql) [.v 33, .c (.int .u8 1)] <|
                 .subp [.int .i64] (
                  .ite (.v 34) (
                   .prim (.bin .add) [.v 24, .c (.int .i64 1)] <|
                   .jmp 0 false [.v 35]) (
                   .jmp 0 false [.v 24])) 1 <|
                 .prim (.bin .add) [.v 25, .c (.int .i64 1)] <|
                 .jmp 0 true [.v 35, .v 36]) (
                 .jmp 1 false [.v 24]))) 1 <|
              .prim (.bin .add) [.v 22, .c (.int .i64 1)] <|
              .jmp 0 true [.v 24, .v 25]) (
              .jmp 1 false [.v 21]))) 1 <|
           .sub0 [.bool] (
            .prim (.bin .eql) [.v 21, .c (.int .i64 0)] <|
            .ite (.v 22) (
             .prim (.bin .neq) [.v 18, .c (.int .i64 0)] <|
             .ite (.v 23) (
              .jmp 0 false [.c (.bool true)]) (
              .prim .idx [.v 5, .v 11] <|
              .prim .get [.v 5, .v 24] <|
              .prim .eqv [.v 17, .v 25] <|
              .prim (.un .not) [.v 26] <|
              .ite (.v 27) (
               .jmp 0 false [.c (.bool true)]) (
               .prim (.bin .eql) [.v 21, .c (.int .i64 1)] <|
               .ite (.v 28) (
                .prim (.bin .neq) [.v 18, .c (.int .i64 5)] <|
                .jmp 0 false [.v 29]) (
                .jmp 0 false [.c (.bool false)])))) (
             .prim (.bin .eql) [.v 21, .c (.int .i64 1)] <|
             .ite (.v 23) (
              .prim (.bin .neq) [.v 18, .c (.int .i64 5)] <|
              .jmp 0 false [.v 24]) (
              .jmp 0 false [.c (.bool false)]))) 1 <|
           .ite (.v 22) (
            .jmp 5 false [.c (.bool false)]) (
            .prim .len [.v 5] <|
            .prim .rng [.v 5, .c (.int .i64 0), .v 11] <|
            .prim .sub [.v 5, .c (.int .i64 0), .v 24] <|
            .primH (.app 64) (.sl tMsg) [.c (.sl []), .v 25] <|
            .prim (.bin .add) [.v 11, .c (.int .i64 1)] <|
            .prim .len [.v 5] <|
            .prim .rng [.v 5, .v 27, .v 28] <|
            .prim .sub [.v 5, .v 27, .v 29] <|
            .prim (.app 64) [.v 26, .v 30] <|
            .prim .len [.v 6] <|
            .prim .rng [.v 6, .c (.int .i64 0), .v 11] <|
            .prim .sub [.v 6, .c (.int .i64 0), .v 33] <|
            .primH (.app 19) (.sl (.arr 19 (.int .u8))) [.c (.sl []), .v 34] <|
            .prim (.bin .add) [.v 11, .c (.int .i64 1)] <|
            .prim .len [.v 6] <|
            .prim .rng [.v 6, .v 36, .v 37] <|
            .prim .sub [.v 6, .v 36, .v 38] <|
            .prim (.app 19) [.v 35, .v 39] <|
            .jmp 0 false [.v 16, .v 31, .v 40]))) (
          .prim (.bin .eql) [.v 13, .c (.int .u8 2)] <|
          .sub1 [tPool, .sl tMsg, .sl (.arr 19 (.int .u8))] (
           .ite (.v 16) (
            .call 44 F_pool_Drop [.v 4, .v 11] 2 <|
            .prim (.bin .eql) [.v 18, .c (.int .i64 0)] <|
            .prim .len [.v 5] <|
            .prim (.bin .gtr) [.v 20, .c (.int .i64 0)] <|
            .prim (.bin .neq) [.v 19, .v 21] <|
            .ite (.v 22) (
             .jmp 6 false [.c (.bool false)]) (
             .prim (.bin .eql) [.v 18, .c (.int .i64 0)] <|
             .sub0 [tPool, .sl tMsg, .sl (.arr 19 (.int .u8))] (
              .ite (.v 23) (
               .prim .len [.v 5] <|
               .prim .rng [.v 5, .c (.int .i64 0), .v 11] <|
               .prim .sub [.v 5, .c (.int .i64 0), .v 25] <|
               .primH (.app 64) (.sl tMsg) [.c (.sl []), .v 26] <|
               .prim (.bin .add) [.v 11, .c (.int .i64 1)] <|
               .prim .len [.v 5] <|
               .prim .rng [.v 5, .v 28, .v 29] <|
               .prim .sub [.v 5, .v 28, .v 30] <|
               .prim (.app 64) [.v 27, .v 31] <|
               .prim .len [.v 6] <|
               .prim .rng [.v 6, .c (.int .i64 0), .v 11] <|
               .prim .sub [.v 6, .c (.int .i64 0), .v 34] <|
               .primH (.app 19) (.sl (.arr 19 (.int .u8))) [.c (.sl []), .v 35] <|
               .prim (.bin .add) [.v 11, .c (.int .i64 1)] <|
               .prim .len [.v 6] <|
               .prim .rng [.v 6, .v 37, .v 38] <|
               .prim .sub [.v 6, .v 37, .v 39] <|
               .prim (.app 19) [.v 36, .v 40] <|
               .jmp 0 false [.v 17, .v 32, .v 41]) (
               .jmp 0 false [.v 4, .v 5, .v 6])) 3 <|
             .jmp 0 false [.v 24, .v 25, .v 26])) (
            .prim (.bin .eql) [.v 13, .c (.int .u8 3)] <|
            .sub1 [tPool, .sl tMsg, .sl (.arr 19 (.int .u8))] (
             .ite (.v 17) (
              .call 46 F_pool_Twice [.v 4, .v 11] 2 <|
              .subp [.bool] (
               .prim (.bin .eql) [.v 19, .c (.int .i64 0)] <|
               .prim .len [.v 5] <|
               .prim (.bin .gtr) [.v 21, .c (.int .i64 0)] <|
               .ite (.v 22) (
                .prim .len [.v 5] <|
                .prim (.bin .lss) [.v 23, .c (.int .i64 64)] <|
                .prim (.bin .neq) [.v 20, .v 24] <|
                .jmp 0 false [.v 25]) (
                .prim (.bin .neq) [.v 20, .c (.bool false)] <|
                .jmp 0 false [.v 23])) 1 <|
              .ite (.v 20) (
               .jmp 7 false [.c (.bool false)]) (
               .prim (.bin .eql) [.v 19, .c (.int .i64 0)] <|
               .sub0 [tPool, .sl tMsg, .sl (.arr 19 (.int .u8))] (
                .ite (.v 21) (
                 .prim .idx [.v 5, .v 11] <|
                 .prim .get [.v 5, .v 22] <|
                 .mkL tMsg [.v 23] <|
                 .prim (.app 64) [.v 5, .v 24] <|
                 .prim .idx [.v 6, .v 11] <|
                 .prim .get [.v 6, .v 26] <|
                 .mkL (.arr 19 (.int .u8)) [.v 27] <|
                 .prim (.app 19) [.v 6, .v 28] <|
                 .jmp 0 false [.v 18, .v 25, .v 29]) (
                 .jmp 0 false [.v 4, .v 5, .v 6])) 3 <|
               .jmp 0 false [.v 22, .v 23, .v 24])) (
              .prim (.fld 3) [.v 8] <|
              .prim (.conv .i64) [.v 18] <|
              .prim (.bin .rem) [.v 19, .c (.int .i64 152)] <|
              .call 48 F_pool_Spoil [.v 4, .v 11, .v 20] 2 <|
              .prim (.bin .eql) [.v 22, .c (.int .i64 0)] <|
              .prim .len [.v 5] <|
              .prim (.bin .gtr) [.v 24, .c (.int .i64 0)] <|
              .prim (.bin .neq) [.v 23, .v 25] <|
              .ite (.v 26) (
               .jmp 7 false [.c (.bool false)]) (
               .prim (.bin .eql) [.v 22, .c (.int .i64 0)] <|
               .sub0 [tPool, .sl (.arr 19 (.int .u8))] (
                .ite (.v 27) (
                 .primH (.app 19) (.sl (.arr 19 (.int .u8))) [.c (.sl []), .v 6] <|
                 .prim (.bin .quo) [.v 20, .c (.int .i64 8)] <|
                 .prim (.bin .quo) [.v 20, .c (.int .i64 8)] <|
                 .prim .idx [.v 28, .v 11] <|
                 .prim (.idxn 19) [.v 30] <|
                 .prim .get [.v 28, .v 31] <|
                 .prim .get [.v 33, .v 32] <|
                 .prim (.bin .rem) [.v 20, .c (.int .i64 8)] <|
                 .prim (.conv .u64) [.v 35] <|
                 .prim (.bin .shl) [.c (.int .u8 1), .v 36] <|
                 .prim (.bin .xor) [.v 34, .v 37] <|
                 .prim .idx [.v 28, .v 11] <|
                 .prim (.idxn 19) [.v 29] <|
                 .prim .get [.v 28, .v 39] <|
                 .prim .set [.v 41, .v 40, .v 38] <|
                 .prim .set [.v 28, .v 39, .v 42] <|
                 .jmp 0 false [.v 21, .v 43]) (
                 .jmp 0 false [.v 4, .v 6])) 2 <|
               .jmp 0 false [.v 28, .v 5, .v 29]))) 3 <|
            .jmp 0 false [.v 18, .v 19, .v 20])) 3 <|
          .jmp 0 false [.v 17, .v 18, .v 19])) 3 <|
        .jmp 0 false [.v 16, .v 17, .v 18])) 3 <|
      .sub0 [.bool] (
       .prim (.fld 0) [.v 15] <|
       .prim .len [.v 18] <|
       .prim .len [.v 16] <|
       .prim (.bin .neq) [.v 19, .v 20] <|
       .ite (.v 21) (
        .jmp 0 false [.c (.bool true)]) (
        .call 51 F_pool_Right [.v 15] 1 <|
        .prim (.un .not) [.v 22] <|
        .jmp 0 false [.v 23])) 1 <|
      .ite (.v 18) (
       .jmp 3 false [.c (.bool false)]) (
       .jmp 0 false [.v 15, .v 16, .v 17])) 3 <|
     .prim (.bin .add) [.v 3, .c (.int .i64 1)] <|
     .jmp 0 true [.v 11, .v 8, .v 9, .v 10]) (
     .jmp 1 false []))) 0 <|
  .jmp 0 false [.c (.bool true)])
theorem a_l06_PoolKeeps : treeOf cx 12 8 = some A_l06_PoolKeeps.erase := by kernel_rfl
theorem k_l06_PoolKeeps : FnOk cx 12 noC 8 F_l06_PoolKeeps := fn_ok (t := A_l06_PoolKeeps) a_l06_PoolKeeps (fun _ => rfl) (ok_of [(29, F_l06_awake.fn), (30, F_pool_Send), (52, F_r05_May), (31, F_pool_Take), (44, F_pool_Drop), (46, F_pool_Twice), (48, F_pool_Spoil), (51, F_pool_Right)] (by kernel_rfl) (.cons k_l06_awake (.cons k_pool_Send (.cons k_r05_May (.cons k_pool_Take (.cons k_pool_Drop (.cons k_pool_Twice (.cons k_pool_Spoil (.cons k_pool_Right .nil))))))))) (fun x => by kernel_rfl)

end Go.Proofs.Ytihchahfnhoapaa
