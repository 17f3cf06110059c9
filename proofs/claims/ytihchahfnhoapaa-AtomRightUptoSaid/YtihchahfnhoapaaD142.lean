/- More functions of this cut as functions of plain typed data. Printed by a program of this claim's prover; each is checked here to be what the executor makes of the code. -/
import Derived.Test.YtihchahfnhoapaaD141
set_option linter.unusedVariables false
set_option maxRecDepth 100000
namespace Go.Proofs.Ytihchahfnhoapaa
open Go.SX
/-! 11: backstay/backstaylaw04.AtomRight -/
noncomputable def l04_AtomRight (p0 : List (List Ins)) (p1 : Atom) (p2 : Int) (p3 : Int) (p4 : Want) : Option Bool :=
  if !l04_awake then
    some (false)
  else
    (
      (r02_Short p0).bind fun v7 =>
      if !v7 then
        some (true)
      else
        if decide ((100 : Int) < (List.length (Atom.Mem p1) : Int)) then
          some (true)
        else
          some ((decide ((6 : Int) < (List.length (Atom.Cores p1) : Int)))) : Option Bool).bind fun v7 =>
    if v7 then
      some (true)
    else
      (atom_Act (Atom.Mem p1) p4).bind fun v9 =>
      (r04_Act (Atom.Mem p1) p4).bind fun v12 =>
      (
        (r04_Words v9.1 v12.1).bind fun v14 =>
        if !v14 then
          some (true)
        else
          if !decide (v9.2 = v12.2) then
            some (true)
          else
            (atom_Over p1).bind fun v17 =>
            (r04_Over (Atom.Cores p1)).bind fun v19 =>
            some ((!decide (v17 = v19))) : Option Bool).bind fun v14 =>
      if v14 then
        some (false)
      else
        (
          (
            (isa_All p0).bind fun v15 =>
            if !v15 then
              some (true)
            else
              if decide (p3 < (1 : Int)) then
                some (true)
              else
                some ((decide ((64 : Int) < p3))) : Option Bool).bind fun v15 =>
          if v15 then
            some (((1 : Int), ([] : List Int), ([] : List Core)))
          else
            (repO (0 : Int) 4 p3 p3).bind fun v16 =>
            let v17 : Int := (List.length p0 : Int)
            (repO (Core.mk ([(0 : Int), (0 : Int), (0 : Int), (0 : Int), (0 : Int), (0 : Int), (0 : Int), (0 : Int)] : List Int) (0 : Int) false) 48 v17 v17).bind fun v18 =>
            some (((0 : Int), v16, v18)) : Option (Int × (List Int) × (List Core))).bind fun v15 =>
        (r04_New p0 p3).bind fun v18 =>
        (
          (r04_Same (Atom.mk v15.2.1 v15.2.2 ([] : List Told)) v18.1).bind fun v21 =>
          if !v21 then
            some (true)
          else
            if !decide (v15.1 = v18.2) then
              some (true)
            else
              (atom_Right p0 p1).bind fun v24 =>
              (r04_Right p0 p1).bind fun v25 =>
              some ((!decide (v24 = v25))) : Option Bool).bind fun v20 =>
        if v20 then
          some (false)
        else
          (atom_Step p0 p1 p2).bind fun v21 =>
          (
            (r04_Right p0 p1).bind fun v23 =>
            if !v23 then
              some (true)
            else
              if decide (p2 < (0 : Int)) then
                some (true)
              else
                some ((decide ((List.length p0 : Int) ≤ p2))) : Option Bool).bind fun v23 =>
          if v23 then
            (
              if decide (v21.2 = (1 : Int)) then
                (r04_Same v21.1 p1).bind fun v25 =>
                some (v25)
              else
                some (false) : Option Bool).bind fun v24 =>
            some (v24)
          else
            (
              if decide (v21.2 = (0 : Int)) then
                (r04_Step p0 p1 p2).bind fun v25 =>
                (r04_Same v21.1 v25).bind fun v26 =>
                some (v26)
              else
                some (false) : Option Bool).bind fun v24 =>
            some (v24)
noncomputable def F_l04_AtomRight : FnT := ⟨[.sl (.sl tIns), tAtom, .int .i64, .int .i64, tWant], [.bool], fun x => l04_AtomRight x.1 x.2.1 x.2.2.1 x.2.2.2.1 x.2.2.2.2⟩
noncomputable def A_l04_AtomRight : TA :=
 .callp 33 F_l04_awake [] 1 <|
 .prim (.un .not) [.v 5] <|
 .ite (.v 6) (
  .jmp 0 false [.c (.bool false)]) (
  .sub0 [.bool] (
   .call 34 F_r02_Short [.v 0] 1 <|
   .prim (.un .not) [.v 7] <|
   .ite (.v 8) (
    .jmp 0 false [.c (.bool true)]) (
    .prim (.fld 0) [.v 1] <|
    .prim .len [.v 9] <|
    .prim (.bin .gtr) [.v 10, .c (.int .i64 100)] <|
    .ite (.v 11) (
     .jmp 0 false [.c (.bool true)]) (
     .prim (.fld 1) [.v 1] <|
     .prim .len [.v 12] <|
     .prim (.bin .gtr) [.v 13, .c (.int .i64 6)] <|
     .jmp 0 false [.v 14]))) 1 <|
  .ite (.v 7) (
   .jmp 0 false [.c (.bool true)]) (
   .prim (.fld 0) [.v 1] <|
   .call 58 F_atom_Act [.v 8, .v 4] 2 <|
   .prim (.fld 0) [.v 1] <|
   .call 59 F_r04_Act [.v 11, .v 4] 2 <|
   .sub0 [.bool] (
    .call 60 F_r04_Words [.v 9, .v 12] 1 <|
    .prim (.un .not) [.v 14] <|
    .ite (.v 15) (
     .jmp 0 false [.c (.bool true)]) (
     .prim (.bin .neq) [.v 10, .v 13] <|
     .ite (.v 16) (
      .jmp 0 false [.c (.bool true)]) (
      .call 56 F_atom_Over [.v 1] 1 <|
      .prim (.fld 1) [.v 1] <|
      .call 61 F_r04_Over [.v 18] 1 <|
      .prim (.bin .neq) [.v 17, .v 19] <|
      .jmp 0 false [.v 20]))) 1 <|
   .ite (.v 14) (
    .jmp 0 false [.c (.bool false)]) (
    .sub0 [.int .i64, .sl (.int .u32), .sl tCore] (
     .sub0 [.bool] (
      .call 93 F_isa_All [.v 0] 1 <|
      .prim (.un .not) [.v 15] <|
      .ite (.v 16) (
       .jmp 0 false [.c (.bool true)]) (
       .prim (.bin .lss) [.v 3, .c (.int .i64 1)] <|
       .ite (.v 17) (
        .jmp 0 false [.c (.bool true)]) (
        .prim (.bin .gtr) [.v 3, .c (.int .i64 64)] <|
        .jmp 0 false [.v 18]))) 1 <|
     .ite (.v 15) (
      .jmp 0 false [.c (.int .i64 1), .c .nil, .c .nil]) (
      .primH (.rep (.int .u32 0) 4) (.sl (.int .u32)) [.v 3, .v 3] <|
      .prim .len [.v 0] <|
      .primH (.rep (.agg [(.agg [(.int .u32 0), (.int .u32 0), (.int .u32 0), (.int .u32 0), (.int .u32 0), (.int .u32 0), (.int .u32 0), (.int .u32 0)]), (.int .i64 0), (.bool false)]) 48) (.sl tCore) [.v 17, .v 17] <|
      .jmp 0 false [.c (.int .i64 0), .v 16, .v 18])) 3 <|
    .call 36 F_r04_New [.v 0, .v 3] 2 <|
    .sub0 [.bool] (
     .mkS tsAtom [.v 16, .v 17, .c .nil] <|
     .call 37 F_r04_Same [.v 20, .v 18] 1 <|
     .prim (.un .not) [.v 21] <|
     .ite (.v 22) (
      .jmp 0 false [.c (.bool true)]) (
      .prim (.bin .neq) [.v 15, .v 19] <|
      .ite (.v 23) (
       .jmp 0 false [.c (.bool true)]) (
       .call 39 F_atom_Right [.v 0, .v 1] 1 <|
       .call 62 F_r04_Right [.v 0, .v 1] 1 <|
       .prim (.bin .neq) [.v 24, .v 25] <|
       .jmp 0 false [.v 26]))) 1 <|
    .ite (.v 20) (
     .jmp 0 false [.c (.bool false)]) (
     .call 54 F_atom_Step [.v 0, .v 1, .v 2] 2 <|
     .sub0 [.bool] (
      .call 62 F_r04_Right [.v 0, .v 1] 1 <|
      .prim (.un .not) [.v 23] <|
      .ite (.v 24) (
       .jmp 0 false [.c (.bool true)]) (
       .prim (.bin .lss) [.v 2, .c (.int .i64 0)] <|
       .ite (.v 25) (
        .jmp 0 false [.c (.bool true)]) (
        .prim .len [.v 0] <|
        .prim (.bin .geq) [.v 2, .v 26] <|
        .jmp 0 false [.v 27]))) 1 <|
     .ite (.v 23) (
      .sub0 [.bool] (
       .prim (.bin .eql) [.v 22, .c (.int .i64 1)] <|
       .ite (.v 24) (
        .call 37 F_r04_Same [.v 21, .v 1] 1 <|
        .jmp 0 false [.v 25]) (
        .jmp 0 false [.c (.bool false)])) 1 <|
      .jmp 0 false [.v 24]) (
      .sub0 [.bool] (
       .prim (.bin .eql) [.v 22, .c (.int .i64 0)] <|
       .ite (.v 24) (
        .call 38 F_r04_Step [.v 0, .v 1, .v 2] 1 <|
        .call 37 F_r04_Same [.v 21, .v 25] 1 <|
        .jmp 0 false [.v 26]) (
        .jmp 0 false [.c (.bool false)])) 1 <|
      .jmp 0 false [.v 24])))))
theorem a_l04_AtomRight : treeOf cx 12 11 = some A_l04_AtomRight.erase := by kernel_rfl
theorem k_l04_AtomRight : FnOk cx 12 noC 11 F_l04_AtomRight := fn_ok (t := A_l04_AtomRight) a_l04_AtomRight (fun _ => rfl) (ok_of [(33, F_l04_awake.fn), (34, F_r02_Short), (58, F_atom_Act), (59, F_r04_Act), (60, F_r04_Words), (56, F_atom_Over), (61, F_r04_Over), (93, F_isa_All), (36, F_r04_New), (37, F_r04_Same), (39, F_atom_Right), (62, F_r04_Right), (54, F_atom_Step), (62, F_r04_Right), (37, F_r04_Same), (38, F_r04_Step), (37, F_r04_Same)] (by kernel_rfl) (.cons k_l04_awake (.cons k_r02_Short (.cons k_atom_Act (.cons k_r04_Act (.cons k_r04_Words (.cons k_atom_Over (.cons k_r04_Over (.cons k_isa_All (.cons k_r04_New (.cons k_r04_Same (.cons k_atom_Right (.cons k_r04_Right (.cons k_atom_Step (.cons k_r04_Right (.cons k_r04_Same (.cons k_r04_Step (.cons k_r04_Same .nil)))))))))))))))))) (fun x => by kernel_rfl)

end Go.Proofs.Ytihchahfnhoapaa
