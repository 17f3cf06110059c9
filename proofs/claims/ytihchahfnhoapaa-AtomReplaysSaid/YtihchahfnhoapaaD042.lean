/- More functions of this cut as functions of plain typed data. Printed by a program of this claim's prover; each is checked here to be what the executor makes of the code. -/
import Derived.Test.YtihchahfnhoapaaD041
set_option linter.unusedVariables false
set_option maxRecDepth 100000
namespace Go.Proofs.Ytihchahfnhoapaa
open Go.SX
/-! 6: backstay/backstaylaw04.AtomRuns -/
noncomputable def l04_AtomRuns_L1 (x0 : List (List Ins)) (x2 : List Int) (s : (Int × Atom)) : Option ((Int × Atom) ⊕ Atom) :=
  if decide (s.1 < (List.length x2 : Int)) then
    (
      (getO x2 s.1).bind fun v15 =>
      if decide ((0 : Int) ≤ v15) then
        (getO x2 s.1).bind fun v17 =>
        some ((decide (v17 < (List.length x0 : Int))))
      else
        some (false) : Option Bool).bind fun v15 =>
    (
      if v15 then
        (getO x2 s.1).bind fun v16 =>
        (r04_Step x0 s.2 v16).bind fun v17 =>
        some (v17)
      else
        some (s.2) : Option Atom).bind fun v16 =>
    some (Sum.inl (w64 (s.1 + (1 : Int)), v16))
  else
    some (Sum.inr (s.2))
noncomputable def l04_AtomRuns (p0 : List (List Ins)) (p1 : Int) (p2 : List Int) : Option Bool :=
  if !l04_awake then
    some (false)
  else
    (
      (r02_Short p0).bind fun v5 =>
      if !v5 then
        some (true)
      else
        some ((decide ((300 : Int) < (List.length p2 : Int)))) : Option Bool).bind fun v5 =>
    if v5 then
      some (true)
    else
      (atom_Run p0 p1 p2).bind fun v6 =>
      (r04_New p0 p1).bind fun v8 =>
      if !decide (v8.2 = (0 : Int)) then
        (
          if decide (v6.2 = v8.2) then
            (r04_Same v6.1 v8.1).bind fun v12 =>
            some (v12)
          else
            some (false) : Option Bool).bind fun v11 =>
        some (v11)
      else
        (
          loopD (l04_AtomRuns_L1 p0 p2) ((0 : Int), v8.1) : Option Atom).bind fun v11 =>
        (
          if decide (v6.2 = (0 : Int)) then
            (r04_Same v6.1 v11).bind fun v13 =>
            if v13 then
              (atom_Right p0 v6.1).bind fun v14 =>
              some (v14)
            else
              some (false)
          else
            some (false) : Option Bool).bind fun v12 =>
        some (v12)
noncomputable def F_l04_AtomRuns : FnT := ⟨[.sl (.sl tIns), .int .i64, .sl (.int .i64)], [.bool], fun x => l04_AtomRuns x.1 x.2.1 x.2.2⟩
noncomputable def A_l04_AtomRuns : TA :=
 .callp 33 F_l04_awake [] 1 <|
 .prim (.un .not) [.v 3] <|
 .ite (.v 4) (
  .jmp 0 false [.c (.bool false)]) (
  .sub0 [.bool] (
   .call 34 F_r02_Short [.v 0] 1 <|
   .prim (.un .not) [.v 5] <|
   .ite (.v 6) (
    .jmp 0 false [.c (.bool true)]) (
    .prim .len [.v 2] <|
    .prim (.bin .gtr) [.v 7, .c (.int .i64 300)] <|
    .jmp 0 false [.v 8])) 1 <|
  .ite (.v 5) (
   .jmp 0 false [.c (.bool true)]) (
   .call 35 F_atom_Run [.v 0, .v 1, .v 2] 2 <|
   .call 36 F_r04_New [.v 0, .v 1] 2 <|
   .prim (.bin .neq) [.v 9, .c (.int .i64 0)] <|
   .ite (.v 10) (
    .sub0 [.bool] (
     .prim (.bin .eql) [.v 7, .v 9] <|
     .ite (.v 11) (
      .call 37 F_r04_Same [.v 6, .v 8] 1 <|
      .jmp 0 false [.v 12]) (
      .jmp 0 false [.c (.bool false)])) 1 <|
    .jmp 0 false [.v 11]) (
    .sub0 [tAtom] (
     .loop [.int .i64, tAtom] [.c (.int .i64 0), .v 8] (
      .prim .len [.v 2] <|
      .prim (.bin .lss) [.v 11, .v 13] <|
      .ite (.v 14) (
       .sub0 [.bool] (
        .prim .get [.v 2, .v 11] <|
        .prim (.bin .geq) [.v 15, .c (.int .i64 0)] <|
        .ite (.v 16) (
         .prim .get [.v 2, .v 11] <|
         .prim .len [.v 0] <|
         .prim (.bin .lss) [.v 17, .v 18] <|
         .jmp 0 false [.v 19]) (
         .jmp 0 false [.c (.bool false)])) 1 <|
       .sub0 [tAtom] (
        .ite (.v 15) (
         .prim .get [.v 2, .v 11] <|
         .call 38 F_r04_Step [.v 0, .v 12, .v 16] 1 <|
         .jmp 0 false [.v 17]) (
         .jmp 0 false [.v 12])) 1 <|
       .prim (.bin .add) [.v 11, .c (.int .i64 1)] <|
       .jmp 0 true [.v 17, .v 16]) (
       .jmp 1 false [.v 12]))) 1 <|
    .sub0 [.bool] (
     .prim (.bin .eql) [.v 7, .c (.int .i64 0)] <|
     .ite (.v 12) (
      .call 37 F_r04_Same [.v 6, .v 11] 1 <|
      .ite (.v 13) (
       .call 39 F_atom_Right [.v 0, .v 6] 1 <|
       .jmp 0 false [.v 14]) (
       .jmp 0 false [.c (.bool false)])) (
      .jmp 0 false [.c (.bool false)])) 1 <|
    .jmp 0 false [.v 12])))
theorem a_l04_AtomRuns : treeOf cx 12 6 = some A_l04_AtomRuns.erase := by kernel_rfl
theorem k_l04_AtomRuns : FnOk cx 12 noC 6 F_l04_AtomRuns := fn_ok (t := A_l04_AtomRuns) a_l04_AtomRuns (fun _ => rfl) (ok_of [(33, F_l04_awake.fn), (34, F_r02_Short), (35, F_atom_Run), (36, F_r04_New), (37, F_r04_Same), (38, F_r04_Step), (37, F_r04_Same), (39, F_atom_Right)] (by kernel_rfl) (.cons k_l04_awake (.cons k_r02_Short (.cons k_atom_Run (.cons k_r04_New (.cons k_r04_Same (.cons k_r04_Step (.cons k_r04_Same (.cons k_atom_Right .nil))))))))) (fun x => by kernel_rfl)

end Go.Proofs.Ytihchahfnhoapaa
