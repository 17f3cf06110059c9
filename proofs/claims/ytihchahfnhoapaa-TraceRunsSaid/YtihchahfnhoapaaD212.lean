/- More functions of this cut as functions of plain typed data. Printed by a program of this claim's prover; each is checked here to be what the executor makes of the code. -/
import Derived.Test.YtihchahfnhoapaaD211
set_option linter.unusedVariables false
set_option maxRecDepth 100000
namespace Go.Proofs.Ytihchahfnhoapaa
open Go.SX
/-! 12: backstay/backstaylaw21.TraceRuns -/
noncomputable def l21_TraceRuns_L1 (x0 : List (List Ins)) (x2 : List Int) (x9 : Int) (s : (Int × (List Int) × (List Core) × (List Told) × (List Deed))) : Option ((Int × (List Int) × (List Core) × (List Told) × (List Deed)) ⊕ ((List Int) × (List Deed)) ⊕ Bool) :=
  if decide (s.1 < (List.length x2 : Int)) then
    (getO x2 s.1).bind fun v21 =>
    (remO (w64 v21) (List.length x0 : Int)).bind fun v24 =>
    (getO x0 v24).bind fun v25 =>
    (getO s.2.2.1 v24).bind fun v26 =>
    (core_Wants v25 v26 x9).bind fun v27 =>
    (atom_Step x0 (Atom.mk s.2.1 s.2.2.1 s.2.2.2.1) v24).bind fun v29 =>
    if !decide (v29.2 = (0 : Int)) then
      some (Sum.inr (Sum.inr (false)))
    else
      (
        if (decide ((1 : Int) ≤ (Want.Kind v27))) && (decide ((Want.Kind v27) ≤ (3 : Int))) then
          (getO s.2.1 (Want.At v27)).bind fun v36 =>
          (getO (Atom.Mem v29.1) (Want.At v27)).bind fun v39 =>
          (appO 32 s.2.2.2.2 ([Deed.mk v24 (Want.Kind v27) (Want.At v27) v36 v39] : List Deed)).bind fun v42 =>
          some (v42)
        else
          some (s.2.2.2.2) : Option (List Deed)).bind fun v33 =>
      some (Sum.inl (w64 (s.1 + (1 : Int)), Atom.Mem v29.1, Atom.Cores v29.1, Atom.Outs v29.1, v33))
  else
    some (Sum.inr (Sum.inl (s.2.1, s.2.2.2.2)))
noncomputable def l21_TraceRuns (p0 : List (List Ins)) (p1 : Int) (p2 : List Int) (p3 : Int) : Option Bool :=
  if !l21_awake then
    some (false)
  else
    (
      (r02_Short p0).bind fun v6 =>
      if !v6 then
        some (true)
      else
        some ((decide ((150 : Int) < (List.length p2 : Int)))) : Option Bool).bind fun v6 =>
    if v6 then
      some (true)
    else
      (remO p1 (64 : Int)).bind fun v7 =>
      let v9 : Int := w64 ((w64 v7) + (1 : Int))
      (
        (
          (isa_All p0).bind fun v10 =>
          if !v10 then
            some (true)
          else
            if decide (v9 < (1 : Int)) then
              some (true)
            else
              some ((decide ((64 : Int) < v9))) : Option Bool).bind fun v10 =>
        if v10 then
          some (((1 : Int), ([] : List Int), ([] : List Core)))
        else
          (repO (0 : Int) 4 v9 v9).bind fun v11 =>
          let v12 : Int := (List.length p0 : Int)
          (repO (Core.mk ([(0 : Int), (0 : Int), (0 : Int), (0 : Int), (0 : Int), (0 : Int), (0 : Int), (0 : Int)] : List Int) (0 : Int) false) 48 v12 v12).bind fun v13 =>
          some (((0 : Int), v11, v13)) : Option (Int × (List Int) × (List Core))).bind fun v10 =>
      if !decide (v10.1 = (0 : Int)) then
        some (true)
      else
        orExit (
          loopD (l21_TraceRuns_L1 p0 p2 v9) ((0 : Int), v10.2.1, v10.2.2, ([] : List Told), ([] : List Deed)) : Option (((List Int) × (List Deed)) ⊕ Bool)) fun v14 =>
        (trace_After v14.2 v9).bind fun v18 =>
        (
          if !decide (v18.2 = (0 : Int)) then
            some (true)
          else
            (r04_Words v18.1 v14.1).bind fun v21 =>
            if !v21 then
              some (true)
            else
              (quoO .i64 (List.length v14.2 : Int) (2 : Int)).bind fun v24 =>
              (rngO (List.length v14.2 : Int) (0 : Int) v24).bind fun v26 =>
              (subO v14.2 (0 : Int) v26).bind fun v27 =>
              (trace_Holds v27 v9).bind fun v28 =>
              some ((!v28)) : Option Bool).bind fun v20 =>
        if v20 then
          some (false)
        else
          if decide ((List.length v14.2 : Int) = (0 : Int)) then
            some (true)
          else
            (remO (w64 p3) (List.length v14.2 : Int)).bind fun v25 =>
            (appO 32 ([] : List Deed) v14.2).bind fun v26 =>
            (idxO (List.length v26 : Int) v25).bind fun v27 =>
            (getO v26 v27).bind fun v28 =>
            (idxO (List.length v26 : Int) v25).bind fun v31 =>
            (getO v26 v31).bind fun v32 =>
            (setO v26 v31 (Deed.setWas v32 (wu32 ((Deed.Was v28) + (1 : Int))))).bind fun v34 =>
            (
              (trace_Holds v34 v9).bind fun v35 =>
              if v35 then
                some (true)
              else
                (trace_First v34 v9).bind fun v36 =>
                some ((!decide (v36 = v25))) : Option Bool).bind fun v35 =>
            if v35 then
              some (false)
            else
              (trace_Sees v14.2).bind fun v36 =>
              (getO v36 v25).bind fun v37 =>
              if decide (v37 < (0 : Int)) then
                (idxO (List.length v14.2 : Int) v25).bind fun v39 =>
                (getO v14.2 v39).bind fun v40 =>
                some ((decide ((Deed.Was v40) = (0 : Int))))
              else
                (
                  (getO v36 v25).bind fun v39 =>
                  (idxO (List.length v14.2 : Int) v39).bind fun v40 =>
                  (getO v14.2 v40).bind fun v41 =>
                  (idxO (List.length v14.2 : Int) v25).bind fun v43 =>
                  (getO v14.2 v43).bind fun v44 =>
                  if decide ((Deed.Val v41) = (Deed.Was v44)) then
                    (getO v36 v25).bind fun v47 =>
                    (idxO (List.length v14.2 : Int) v47).bind fun v48 =>
                    (getO v14.2 v48).bind fun v49 =>
                    (idxO (List.length v14.2 : Int) v25).bind fun v51 =>
                    (getO v14.2 v51).bind fun v52 =>
                    some ((decide ((Deed.At v49) = (Deed.At v52))))
                  else
                    some (false) : Option Bool).bind fun v39 =>
                some (v39)
noncomputable def F_l21_TraceRuns : FnT := ⟨[.sl (.sl tIns), .int .u8, .sl (.int .u8), .int .u8], [.bool], fun x => l21_TraceRuns x.1 x.2.1 x.2.2.1 x.2.2.2⟩
noncomputable def A_l21_TraceRuns : TA :=
 .callp 63 F_l21_awake [] 1 <|
 .prim (.un .not) [.v 4] <|
 .ite (.v 5) (
  .jmp 0 false [.c (.bool false)]) (
  .sub0 [.bool] (
   .call 34 F_r02_Short [.v 0] 1 <|
   .prim (.un .not) [.v 6] <|
   .ite (.v 7) (
    .jmp 0 false [.c (.bool true)]) (
    .prim .len [.v 2] <|
    .prim (.bin .gtr) [.v 8, .c (.int .i64 150)] <|
    .jmp 0 false [.v 9])) 1 <|
  .ite (.v 6) (
   .jmp 0 false [.c (.bool true)]) (
   .prim (.bin .rem) [.v 1, .c (.int .u8 64)] <|
   .prim (.conv .i64) [.v 7] <|
   .prim (.bin .add) [.v 8, .c (.int .i64 1)] <|
   .sub0 [.int .i64, .sl (.int .u32), .sl tCore] (
    .sub0 [.bool] (
     .call 93 F_isa_All [.v 0] 1 <|
     .prim (.un .not) [.v 10] <|
     .ite (.v 11) (
      .jmp 0 false [.c (.bool true)]) (
      .prim (.bin .lss) [.v 9, .c (.int .i64 1)] <|
      .ite (.v 12) (
       .jmp 0 false [.c (.bool true)]) (
       .prim (.bin .gtr) [.v 9, .c (.int .i64 64)] <|
       .jmp 0 false [.v 13]))) 1 <|
    .ite (.v 10) (
     .jmp 0 false [.c (.int .i64 1), .c .nil, .c .nil]) (
     .primH (.rep (.int .u32 0) 4) (.sl (.int .u32)) [.v 9, .v 9] <|
     .prim .len [.v 0] <|
     .primH (.rep (.agg [(.agg [(.int .u32 0), (.int .u32 0), (.int .u32 0), (.int .u32 0), (.int .u32 0), (.int .u32 0), (.int .u32 0), (.int .u32 0)]), (.int .i64 0), (.bool false)]) 48) (.sl tCore) [.v 12, .v 12] <|
     .jmp 0 false [.c (.int .i64 0), .v 11, .v 13])) 3 <|
   .prim (.bin .neq) [.v 10, .c (.int .i64 0)] <|
   .ite (.v 13) (
    .jmp 0 false [.c (.bool true)]) (
    .sub1 [.sl (.int .u32), .no, .no, .sl tDeed] (
     .loop [.int .i64, .sl (.int .u32), .sl tCore, .sl tTold, .sl tDeed] [.c (.int .i64 0), .v 11, .v 12, .c .nil, .c .nil] (
      .prim .len [.v 2] <|
      .prim (.bin .lss) [.v 14, .v 19] <|
      .ite (.v 20) (
       .prim .get [.v 2, .v 14] <|
       .prim (.conv .i64) [.v 21] <|
       .prim .len [.v 0] <|
       .prim (.bin .rem) [.v 22, .v 23] <|
       .prim .get [.v 0, .v 24] <|
       .prim .get [.v 16, .v 24] <|
       .call 57 F_core_Wants [.v 25, .v 26, .v 9] 1 <|
       .mkS tsAtom [.v 15, .v 16, .v 17] <|
       .call 54 F_atom_Step [.v 0, .v 28, .v 24] 2 <|
       .prim (.bin .neq) [.v 30, .c (.int .i64 0)] <|
       .ite (.v 31) (
        .jmp 2 false [.c (.bool false)]) (
        .subp [.bool] (
         .prim (.fld 0) [.v 27] <|
         .prim (.bin .geq) [.v 32, .c (.int .i64 1)] <|
         .ite (.v 33) (
          .prim (.fld 0) [.v 27] <|
          .prim (.bin .leq) [.v 34, .c (.int .i64 3)] <|
          .jmp 0 false [.v 35]) (
          .jmp 0 false [.c (.bool false)])) 1 <|
        .sub0 [.sl tDeed] (
         .ite (.v 32) (
          .prim (.fld 0) [.v 27] <|
          .prim (.fld 1) [.v 27] <|
          .prim (.fld 1) [.v 27] <|
          .prim .get [.v 15, .v 35] <|
          .prim (.fld 0) [.v 29] <|
          .prim (.fld 1) [.v 27] <|
          .prim .get [.v 37, .v 38] <|
          .mkS tsDeed [.v 24, .v 33, .v 34, .v 36, .v 39] <|
          .mkL tDeed [.v 40] <|
          .prim (.app 32) [.v 18, .v 41] <|
          .jmp 0 false [.v 42]) (
          .jmp 0 false [.v 18])) 1 <|
        .prim (.bin .add) [.v 14, .c (.int .i64 1)] <|
        .prim (.fld 0) [.v 29] <|
        .prim (.fld 1) [.v 29] <|
        .prim (.fld 2) [.v 29] <|
        .jmp 0 true [.v 34, .v 35, .v 36, .v 37, .v 33])) (
       .jmp 1 false [.v 15, .v 16, .v 17, .v 18]))) 4 <|
    .call 64 F_trace_After [.v 17, .v 9] 2 <|
    .sub0 [.bool] (
     .prim (.bin .neq) [.v 19, .c (.int .i64 0)] <|
     .ite (.v 20) (
      .jmp 0 false [.c (.bool true)]) (
      .call 60 F_r04_Words [.v 18, .v 14] 1 <|
      .prim (.un .not) [.v 21] <|
      .ite (.v 22) (
       .jmp 0 false [.c (.bool true)]) (
       .prim .len [.v 17] <|
       .prim (.bin .quo) [.v 23, .c (.int .i64 2)] <|
       .prim .len [.v 17] <|
       .prim .rng [.v 17, .c (.int .i64 0), .v 24] <|
       .prim .sub [.v 17, .c (.int .i64 0), .v 26] <|
       .call 65 F_trace_Holds [.v 27, .v 9] 1 <|
       .prim (.un .not) [.v 28] <|
       .jmp 0 false [.v 29]))) 1 <|
    .ite (.v 20) (
     .jmp 0 false [.c (.bool false)]) (
     .prim .len [.v 17] <|
     .prim (.bin .eql) [.v 21, .c (.int .i64 0)] <|
     .ite (.v 22) (
      .jmp 0 false [.c (.bool true)]) (
      .prim (.conv .i64) [.v 3] <|
      .prim .len [.v 17] <|
      .prim (.bin .rem) [.v 23, .v 24] <|
      .primH (.app 32) (.sl tDeed) [.c (.sl []), .v 17] <|
      .prim .idx [.v 26, .v 25] <|
      .prim .get [.v 26, .v 27] <|
      .prim (.fld 3) [.v 28] <|
      .prim (.bin .add) [.v 29, .c (.int .u32 1)] <|
      .prim .idx [.v 26, .v 25] <|
      .prim .get [.v 26, .v 31] <|
      .prim (.setf 3) [.v 32, .v 30] <|
      .prim .set [.v 26, .v 31, .v 33] <|
      .sub0 [.bool] (
       .call 65 F_trace_Holds [.v 34, .v 9] 1 <|
       .ite (.v 35) (
        .jmp 0 false [.c (.bool true)]) (
        .call 66 F_trace_First [.v 34, .v 9] 1 <|
        .prim (.bin .neq) [.v 36, .v 25] <|
        .jmp 0 false [.v 37])) 1 <|
      .ite (.v 35) (
       .jmp 0 false [.c (.bool false)]) (
       .call 67 F_trace_Sees [.v 17] 1 <|
       .prim .get [.v 36, .v 25] <|
       .prim (.bin .lss) [.v 37, .c (.int .i64 0)] <|
       .ite (.v 38) (
        .prim .idx [.v 17, .v 25] <|
        .prim .get [.v 17, .v 39] <|
        .prim (.fld 3) [.v 40] <|
        .prim (.bin .eql) [.v 41, .c (.int .u32 0)] <|
        .jmp 0 false [.v 42]) (
        .sub0 [.bool] (
         .prim .get [.v 36, .v 25] <|
         .prim .idx [.v 17, .v 39] <|
         .prim .get [.v 17, .v 40] <|
         .prim (.fld 4) [.v 41] <|
         .prim .idx [.v 17, .v 25] <|
         .prim .get [.v 17, .v 43] <|
         .prim (.fld 3) [.v 44] <|
         .prim (.bin .eql) [.v 42, .v 45] <|
         .ite (.v 46) (
          .prim .get [.v 36, .v 25] <|
          .prim .idx [.v 17, .v 47] <|
          .prim .get [.v 17, .v 48] <|
          .prim (.fld 2) [.v 49] <|
          .prim .idx [.v 17, .v 25] <|
          .prim .get [.v 17, .v 51] <|
          .prim (.fld 2) [.v 52] <|
          .prim (.bin .eql) [.v 50, .v 53] <|
          .jmp 0 false [.v 54]) (
          .jmp 0 false [.c (.bool false)])) 1 <|
        .jmp 0 false [.v 39])))))))
theorem a_l21_TraceRuns : treeOf cx 12 12 = some A_l21_TraceRuns.erase := by kernel_rfl
theorem k_l21_TraceRuns : FnOk cx 12 noC 12 F_l21_TraceRuns := fn_ok (t := A_l21_TraceRuns) a_l21_TraceRuns (fun _ => rfl) (ok_of [(63, F_l21_awake.fn), (34, F_r02_Short), (93, F_isa_All), (57, F_core_Wants), (54, F_atom_Step), (64, F_trace_After), (60, F_r04_Words), (65, F_trace_Holds), (65, F_trace_Holds), (66, F_trace_First), (67, F_trace_Sees)] (by kernel_rfl) (.cons k_l21_awake (.cons k_r02_Short (.cons k_isa_All (.cons k_core_Wants (.cons k_atom_Step (.cons k_trace_After (.cons k_r04_Words (.cons k_trace_Holds (.cons k_trace_Holds (.cons k_trace_First (.cons k_trace_Sees .nil)))))))))))) (fun x => by kernel_rfl)

end Go.Proofs.Ytihchahfnhoapaa
