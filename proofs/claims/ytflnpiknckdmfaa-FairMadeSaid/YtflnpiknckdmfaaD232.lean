/- More functions of this cut as functions of plain typed data. Printed by a program of this claim's prover; each is checked here to be what the executor makes of the code. -/
import Derived.Test.YtflnpiknckdmfaaD231
set_option linter.unusedVariables false
set_option maxRecDepth 100000
namespace Go.Proofs.Ytflnpiknckdmfaa
open Go.SX
/-! 3: backstay/backstaylaw23.FairRight -/
noncomputable def l23_FairRight_L1 (x0 : List Event) (x10 : Int) (s : (Int × Int)) : Option ((Int × Int) ⊕ Int) :=
  if decide (s.2 < (List.length x0 : Int)) then
    (getO x0 s.2).bind fun v16 =>
    some (Sum.inl (bif decide ((Event.Kind v16) = (w64 (x10 + (1 : Int)))) then w64 (s.1 + (1 : Int)) else s.1, w64 (s.2 + (1 : Int))))
  else
    some (Sum.inr (s.1))
noncomputable def l23_FairRight_L2 (x0 : List Event) (x9 : List Int) (s : Int) : Option (Int ⊕ Unit ⊕ Bool) :=
  if decide (s < (9 : Int)) then
    (
      loopD (l23_FairRight_L1 x0 s) ((0 : Int), (0 : Int)) : Option Int).bind fun v12 =>
    (idxO (9 : Int) s).bind fun v13 =>
    (getO x9 v13).bind fun v14 =>
    if !decide (v14 = v12) then
      some (Sum.inr (Sum.inr (false)))
    else
      some (Sum.inl (w64 (s + (1 : Int))))
  else
    some (Sum.inr (Sum.inl ()))
noncomputable def l23_FairRight (p0 : List Event) (p1 : Int) (p2 : Int) (p3 : Event) (p4 : Int) (p5 : Int) : Option Bool :=
  if !l23_awake then
    some (false)
  else
    if (decide ((120 : Int) < (List.length p0 : Int))) || ((decide ((60 : Int) < p4)) && (decide (p4 ≤ (1000 : Int)))) then
      some (true)
    else
      (fair_Counts p0).bind fun v9 =>
      orExit (
        loopD (l23_FairRight_L2 p0 v9) (0 : Int) : Option (Unit ⊕ Bool)) fun v10 =>
      (
        (fair_Is p0 p1 p2).bind fun v10 =>
        (r23_Is p0 p1 p2).bind fun v11 =>
        if decide (v10 = v11) then
          (fair_Gap p0 p3).bind fun v13 =>
          (r23_Gap p0 p3).bind fun v14 =>
          if decide (v13 = v14) then
            (fair_Least p0 p1).bind fun v16 =>
            (r23_Least p0 p1).bind fun v17 =>
            if decide (v16 = v17) then
              (fair_Turns p1 p4 p5).bind fun v19 =>
              (r23_Turns p1 p4 p5).bind fun v20 =>
              (r23_Same v19 v20).bind fun v21 =>
              some (v21)
            else
              some (false)
          else
            some (false)
        else
          some (false) : Option Bool).bind fun v10 =>
      some (v10)
noncomputable def F_l23_FairRight : FnT := ⟨[.sl tEvent, .int .i64, .int .i64, tEvent, .int .i64, .int .i64], [.bool], fun x => l23_FairRight x.1 x.2.1 x.2.2.1 x.2.2.2.1 x.2.2.2.2.1 x.2.2.2.2.2⟩
noncomputable def A_l23_FairRight : TA :=
 .callp 14 F_l23_awake [] 1 <|
 .prim (.un .not) [.v 6] <|
 .ite (.v 7) (
  .jmp 0 false [.c (.bool false)]) (
  .subp [.bool] (
   .prim .len [.v 0] <|
   .prim (.bin .gtr) [.v 8, .c (.int .i64 120)] <|
   .ite (.v 9) (
    .jmp 0 false [.c (.bool true)]) (
    .prim (.bin .gtr) [.v 4, .c (.int .i64 60)] <|
    .ite (.v 10) (
     .prim (.bin .leq) [.v 4, .c (.int .i64 1000)] <|
     .jmp 0 false [.v 11]) (
     .jmp 0 false [.c (.bool false)]))) 1 <|
  .ite (.v 8) (
   .jmp 0 false [.c (.bool true)]) (
   .call 15 F_fair_Counts [.v 0] 1 <|
   .sub1 [] (
    .loop [.int .i64] [.c (.int .i64 0)] (
     .prim (.bin .lss) [.v 10, .c (.int .i64 9)] <|
     .ite (.v 11) (
      .sub0 [.int .i64] (
       .loop [.int .i64, .int .i64] [.c (.int .i64 0), .c (.int .i64 0)] (
        .prim .len [.v 0] <|
        .prim (.bin .lss) [.v 13, .v 14] <|
        .ite (.v 15) (
         .prim .get [.v 0, .v 13] <|
         .prim (.fld 0) [.v 16] <|
         .prim (.bin .add) [.v 10, .c (.int .i64 1)] <|
         .prim (.bin .eql) [.v 17, .v 18] <|
         .subp [.int .i64] (
          .ite (.v 19) (
           .prim (.bin .add) [.v 12, .c (.int .i64 1)] <|
           .jmp 0 false [.v 20]) (
           .jmp 0 false [.v 12])) 1 <|
         .prim (.bin .add) [.v 13, .c (.int .i64 1)] <|
         .jmp 0 true [.v 20, .v 21]) (
         .jmp 1 false [.v 12]))) 1 <|
      .prim (.idxn 9) [.v 10] <|
      .prim .get [.v 9, .v 13] <|
      .prim (.bin .neq) [.v 14, .v 12] <|
      .ite (.v 15) (
       .jmp 2 false [.c (.bool false)]) (
       .prim (.bin .add) [.v 10, .c (.int .i64 1)] <|
       .jmp 0 true [.v 16])) (
      .jmp 1 false []))) 0 <|
   .sub0 [.bool] (
    .call 16 F_fair_Is [.v 0, .v 1, .v 2] 1 <|
    .call 17 F_r23_Is [.v 0, .v 1, .v 2] 1 <|
    .prim (.bin .eql) [.v 10, .v 11] <|
    .ite (.v 12) (
     .call 18 F_fair_Gap [.v 0, .v 3] 1 <|
     .call 19 F_r23_Gap [.v 0, .v 3] 1 <|
     .prim (.bin .eql) [.v 13, .v 14] <|
     .ite (.v 15) (
      .call 20 F_fair_Least [.v 0, .v 1] 1 <|
      .call 21 F_r23_Least [.v 0, .v 1] 1 <|
      .prim (.bin .eql) [.v 16, .v 17] <|
      .ite (.v 18) (
       .call 23 F_fair_Turns [.v 1, .v 4, .v 5] 1 <|
       .call 24 F_r23_Turns [.v 1, .v 4, .v 5] 1 <|
       .call 22 F_r23_Same [.v 19, .v 20] 1 <|
       .jmp 0 false [.v 21]) (
       .jmp 0 false [.c (.bool false)])) (
      .jmp 0 false [.c (.bool false)])) (
     .jmp 0 false [.c (.bool false)])) 1 <|
   .jmp 0 false [.v 10]))
theorem a_l23_FairRight : treeOf cx 12 3 = some A_l23_FairRight.erase := by kernel_rfl
theorem k_l23_FairRight : FnOk cx 12 noC 3 F_l23_FairRight := fn_ok (t := A_l23_FairRight) a_l23_FairRight (fun _ => rfl) (ok_of [(14, F_l23_awake.fn), (15, F_fair_Counts), (16, F_fair_Is), (17, F_r23_Is), (18, F_fair_Gap), (19, F_r23_Gap), (20, F_fair_Least), (21, F_r23_Least), (23, F_fair_Turns), (24, F_r23_Turns), (22, F_r23_Same)] (by kernel_rfl) (.cons k_l23_awake (.cons k_fair_Counts (.cons k_fair_Is (.cons k_r23_Is (.cons k_fair_Gap (.cons k_r23_Gap (.cons k_fair_Least (.cons k_r23_Least (.cons k_fair_Turns (.cons k_r23_Turns (.cons k_r23_Same .nil)))))))))))) (fun x => by kernel_rfl)

end Go.Proofs.Ytflnpiknckdmfaa
