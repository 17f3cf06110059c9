/- More functions of this cut as functions of plain typed data. Printed by a program of this claim's prover; each is checked here to be what the executor makes of the code. -/
import Derived.Test.YtihchahfnhoapaaD043
set_option linter.unusedVariables false
set_option maxRecDepth 100000
namespace Go.Proofs.Ytihchahfnhoapaa
open Go.SX
/-! 10: backstay/backstaylaw04.AtomTurns -/
noncomputable def l04_AtomTurns (p0 : List (List Ins)) (p1 : Int) (p2 : List Int) (p3 : Int) (p4 : Int) : Option Bool :=
  if !l04_awake then
    some (false)
  else
    (
      (r02_Short p0).bind fun v7 =>
      if !v7 then
        some (true)
      else
        some ((decide ((100 : Int) < (List.length p2 : Int)))) : Option Bool).bind fun v7 =>
    if v7 then
      some (true)
    else
      (remO p1 (64 : Int)).bind fun v8 =>
      (atom_Run p0 (w64 ((w64 v8) + (1 : Int))) p2).bind fun v11 =>
      if !decide (v11.2 = (0 : Int)) then
        some (true)
      else
        (remO (w64 p3) (List.length p0 : Int)).bind fun v16 =>
        (remO (w64 p4) (List.length p0 : Int)).bind fun v19 =>
        (getO p0 v16).bind fun v20 =>
        (getO (Atom.Cores v11.1) v16).bind fun v22 =>
        (core_Wants v20 v22 (List.length (Atom.Mem v11.1) : Int)).bind fun v25 =>
        (getO p0 v19).bind fun v26 =>
        (getO (Atom.Cores v11.1) v19).bind fun v28 =>
        (core_Wants v26 v28 (List.length (Atom.Mem v11.1) : Int)).bind fun v31 =>
        if (decide (v16 = v19)) || (bif (decide ((1 : Int) ≤ (Want.Kind v25))) && ((decide ((Want.Kind v25) ≤ (3 : Int))) && ((decide ((1 : Int) ≤ (Want.Kind v31))) && ((decide ((Want.Kind v31) ≤ (3 : Int))) && (decide ((Want.At v25) = (Want.At v31)))))) then ((decide ((Want.Kind v25) = (2 : Int))) || ((decide ((Want.Kind v25) = (3 : Int))) || ((decide ((Want.Kind v31) = (2 : Int))) || (decide ((Want.Kind v31) = (3 : Int)))))) || ((decide ((Want.Kind v25) = (4 : Int))) && (decide ((Want.Kind v31) = (4 : Int)))) else (decide ((Want.Kind v25) = (4 : Int))) && (decide ((Want.Kind v31) = (4 : Int)))) then
          some (true)
        else
          (atom_Step p0 v11.1 v16).bind fun v35 =>
          (atom_Step p0 v35.1 v19).bind fun v37 =>
          (atom_Step p0 v11.1 v19).bind fun v39 =>
          (atom_Step p0 v39.1 v16).bind fun v41 =>
          (r04_Same v37.1 v41.1).bind fun v43 =>
          some (v43)
noncomputable def F_l04_AtomTurns : FnT := ⟨[.sl (.sl tIns), .int .u8, .sl (.int .i64), .int .u8, .int .u8], [.bool], fun x => l04_AtomTurns x.1 x.2.1 x.2.2.1 x.2.2.2.1 x.2.2.2.2⟩
noncomputable def A_l04_AtomTurns : TA :=
 .callp 33 F_l04_awake [] 1 <|
 .prim (.un .not) [.v 5] <|
 .ite (.v 6) (
  .jmp 0 false [.c (.bool false)]) (
  .sub0 [.bool] (
   .call 34 F_r02_Short [.v 0] 1 <|
   .prim (.un .not) [.v 7] <|
   .ite (.v 8) (
    .jmp 0 false [.c (.bool true)]) (
    .prim .len [.v 2] <|
    .prim (.bin .gtr) [.v 9, .c (.int .i64 100)] <|
    .jmp 0 false [.v 10])) 1 <|
  .ite (.v 7) (
   .jmp 0 false [.c (.bool true)]) (
   .prim (.bin .rem) [.v 1, .c (.int .u8 64)] <|
   .prim (.conv .i64) [.v 8] <|
   .prim (.bin .add) [.v 9, .c (.int .i64 1)] <|
   .call 35 F_atom_Run [.v 0, .v 10, .v 2] 2 <|
   .prim (.bin .neq) [.v 12, .c (.int .i64 0)] <|
   .ite (.v 13) (
    .jmp 0 false [.c (.bool true)]) (
    .prim (.conv .i64) [.v 3] <|
    .prim .len [.v 0] <|
    .prim (.bin .rem) [.v 14, .v 15] <|
    .prim (.conv .i64) [.v 4] <|
    .prim .len [.v 0] <|
    .prim (.bin .rem) [.v 17, .v 18] <|
    .prim .get [.v 0, .v 16] <|
    .prim (.fld 1) [.v 11] <|
    .prim .get [.v 21, .v 16] <|
    .prim (.fld 0) [.v 11] <|
    .prim .len [.v 23] <|
    .call 57 F_core_Wants [.v 20, .v 22, .v 24] 1 <|
    .prim .get [.v 0, .v 19] <|
    .prim (.fld 1) [.v 11] <|
    .prim .get [.v 27, .v 19] <|
    .prim (.fld 0) [.v 11] <|
    .prim .len [.v 29] <|
    .call 57 F_core_Wants [.v 26, .v 28, .v 30] 1 <|
    .subp [.bool] (
     .prim (.fld 0) [.v 25] <|
     .prim (.bin .eql) [.v 32, .c (.int .i64 2)] <|
     .ite (.v 33) (
      .jmp 0 false [.c (.bool true)]) (
      .prim (.fld 0) [.v 25] <|
      .prim (.bin .eql) [.v 34, .c (.int .i64 3)] <|
      .ite (.v 35) (
       .jmp 0 false [.c (.bool true)]) (
       .prim (.fld 0) [.v 31] <|
       .prim (.bin .eql) [.v 36, .c (.int .i64 2)] <|
       .ite (.v 37) (
        .jmp 0 false [.c (.bool true)]) (
        .prim (.fld 0) [.v 31] <|
        .prim (.bin .eql) [.v 38, .c (.int .i64 3)] <|
        .jmp 0 false [.v 39])))) 1 <|
    .subp [.bool] (
     .prim (.fld 0) [.v 25] <|
     .prim (.bin .geq) [.v 33, .c (.int .i64 1)] <|
     .ite (.v 34) (
      .prim (.fld 0) [.v 25] <|
      .prim (.bin .leq) [.v 35, .c (.int .i64 3)] <|
      .ite (.v 36) (
       .prim (.fld 0) [.v 31] <|
       .prim (.bin .geq) [.v 37, .c (.int .i64 1)] <|
       .ite (.v 38) (
        .prim (.fld 0) [.v 31] <|
        .prim (.bin .leq) [.v 39, .c (.int .i64 3)] <|
        .ite (.v 40) (
         .prim (.fld 1) [.v 25] <|
         .prim (.fld 1) [.v 31] <|
         .prim (.bin .eql) [.v 41, .v 42] <|
         .jmp 0 false [.v 43]) (
         .jmp 0 false [.c (.bool false)])) (
        .jmp 0 false [.c (.bool false)])) (
       .jmp 0 false [.c (.bool false)])) (
      .jmp 0 false [.c (.bool false)])) 1 <|
    .subp [.bool] (
     .prim (.bin .eql) [.v 16, .v 19] <|
     .ite (.v 34) (
      .jmp 0 false [.c (.bool true)]) (
      .ite (.v 33) (
       .ite (.v 32) (
        .jmp 0 false [.c (.bool true)]) (
        .prim (.fld 0) [.v 25] <|
        .prim (.bin .eql) [.v 35, .c (.int .i64 4)] <|
        .ite (.v 36) (
         .prim (.fld 0) [.v 31] <|
         .prim (.bin .eql) [.v 37, .c (.int .i64 4)] <|
         .jmp 0 false [.v 38]) (
         .jmp 0 false [.c (.bool false)]))) (
       .prim (.fld 0) [.v 25] <|
       .prim (.bin .eql) [.v 35, .c (.int .i64 4)] <|
       .ite (.v 36) (
        .prim (.fld 0) [.v 31] <|
        .prim (.bin .eql) [.v 37, .c (.int .i64 4)] <|
        .jmp 0 false [.v 38]) (
        .jmp 0 false [.c (.bool false)])))) 1 <|
    .ite (.v 34) (
     .jmp 0 false [.c (.bool true)]) (
     .call 54 F_atom_Step [.v 0, .v 11, .v 16] 2 <|
     .call 54 F_atom_Step [.v 0, .v 35, .v 19] 2 <|
     .call 54 F_atom_Step [.v 0, .v 11, .v 19] 2 <|
     .call 54 F_atom_Step [.v 0, .v 39, .v 16] 2 <|
     .call 37 F_r04_Same [.v 37, .v 41] 1 <|
     .jmp 0 false [.v 43]))))
theorem a_l04_AtomTurns : treeOf cx 12 10 = some A_l04_AtomTurns.erase := by kernel_rfl
theorem k_l04_AtomTurns : FnOk cx 12 noC 10 F_l04_AtomTurns := fn_ok (t := A_l04_AtomTurns) a_l04_AtomTurns (fun _ => rfl) (ok_of [(33, F_l04_awake.fn), (34, F_r02_Short), (35, F_atom_Run), (57, F_core_Wants), (57, F_core_Wants), (54, F_atom_Step), (54, F_atom_Step), (54, F_atom_Step), (54, F_atom_Step), (37, F_r04_Same)] (by kernel_rfl) (.cons k_l04_awake (.cons k_r02_Short (.cons k_atom_Run (.cons k_core_Wants (.cons k_core_Wants (.cons k_atom_Step (.cons k_atom_Step (.cons k_atom_Step (.cons k_atom_Step (.cons k_r04_Same .nil))))))))))) (fun x => by kernel_rfl)

end Go.Proofs.Ytihchahfnhoapaa
