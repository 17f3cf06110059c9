/- More functions of this cut as functions of plain typed data. Printed by a program of this claim's prover; each is checked here to be what the executor makes of the code. -/
import Derived.Test.YtihchahfnhoapaaD222
set_option linter.unusedVariables false
set_option maxRecDepth 100000
namespace Go.Proofs.Ytihchahfnhoapaa
open Go.SX
/-! 4: backstay/backstaylaw22.WatchWho -/
noncomputable def l22_WatchWho_L1 (x6 : List Int) (x7 : Int) (s : (Bool × Int)) : Option ((Bool × Int) ⊕ Bool) :=
  if decide (s.2 < (List.length x6 : Int)) then
    (
      if s.1 then
        some (true)
      else
        (getO x6 s.2).bind fun v15 =>
        some ((decide (v15 = x7))) : Option Bool).bind fun v15 =>
    some (Sum.inl (v15, w64 (s.2 + (1 : Int))))
  else
    some (Sum.inr (s.1))
noncomputable def l22_WatchWho_L2 (x0 : Proto) (x1 : Int) (x6 : List Int) (s : Int) : Option (Int ⊕ Unit ⊕ Bool) :=
  if decide (s < (List.length (Proto.Wait x0) : Int)) then
    (
      loopD (l22_WatchWho_L1 x6 s) (false, (0 : Int)) : Option Bool).bind fun v11 =>
    (proto_Get x0 s x1).bind fun v12 =>
    if !decide (v11 = (decide (v12.2 = (0 : Int)))) then
      some (Sum.inr (Sum.inr (false)))
    else
      some (Sum.inl (w64 (s + (1 : Int))))
  else
    some (Sum.inr (Sum.inl ()))
noncomputable def l22_WatchWho (p0 : Proto) (p1 : Int) : Option Bool :=
  if !l22_awake then
    some (false)
  else
    (r10_Short p0).bind fun v4 =>
    if !v4 then
      some (true)
    else
      (watch_Who p0 p1).bind fun v6 =>
      orExit (
        loopD (l22_WatchWho_L2 p0 p1 v6) (0 : Int) : Option (Unit ⊕ Bool)) fun v7 =>
      (
        if decide ((List.length v6 : Int) = (0 : Int)) then
          some (true)
        else
          (watch_Alike p0 p1).bind fun v9 =>
          if v9 then
            some (true)
          else
            some ((decide ((1 : Int) < (List.length v6 : Int)))) : Option Bool).bind fun v7 =>
      some (v7)
noncomputable def F_l22_WatchWho : FnT := ⟨[tProto, .int .i64], [.bool], fun x => l22_WatchWho x.1 x.2⟩
noncomputable def A_l22_WatchWho : TA :=
 .callp 13 F_l22_awake [] 1 <|
 .prim (.un .not) [.v 2] <|
 .ite (.v 3) (
  .jmp 0 false [.c (.bool false)]) (
  .call 14 F_r10_Short [.v 0] 1 <|
  .prim (.un .not) [.v 4] <|
  .ite (.v 5) (
   .jmp 0 false [.c (.bool true)]) (
   .call 26 F_watch_Who [.v 0, .v 1] 1 <|
   .sub1 [] (
    .loop [.int .i64] [.c (.int .i64 0)] (
     .prim (.fld 2) [.v 0] <|
     .prim .len [.v 8] <|
     .prim (.bin .lss) [.v 7, .v 9] <|
     .ite (.v 10) (
      .sub0 [.bool] (
       .loop [.bool, .int .i64] [.c (.bool false), .c (.int .i64 0)] (
        .prim .len [.v 6] <|
        .prim (.bin .lss) [.v 12, .v 13] <|
        .ite (.v 14) (
         .sub0 [.bool] (
          .ite (.v 11) (
           .jmp 0 false [.c (.bool true)]) (
           .prim .get [.v 6, .v 12] <|
           .prim (.bin .eql) [.v 15, .v 7] <|
           .jmp 0 false [.v 16])) 1 <|
         .prim (.bin .add) [.v 12, .c (.int .i64 1)] <|
         .jmp 0 true [.v 15, .v 16]) (
         .jmp 1 false [.v 11]))) 1 <|
      .call 28 F_proto_Get [.v 0, .v 7, .v 1] 2 <|
      .prim (.bin .eql) [.v 13, .c (.int .i64 0)] <|
      .prim (.bin .neq) [.v 11, .v 14] <|
      .ite (.v 15) (
       .jmp 2 false [.c (.bool false)]) (
       .prim (.bin .add) [.v 7, .c (.int .i64 1)] <|
       .jmp 0 true [.v 16])) (
      .jmp 1 false []))) 0 <|
   .sub0 [.bool] (
    .prim .len [.v 6] <|
    .prim (.bin .eql) [.v 7, .c (.int .i64 0)] <|
    .ite (.v 8) (
     .jmp 0 false [.c (.bool true)]) (
     .call 17 F_watch_Alike [.v 0, .v 1] 1 <|
     .ite (.v 9) (
      .jmp 0 false [.c (.bool true)]) (
      .prim .len [.v 6] <|
      .prim (.bin .gtr) [.v 10, .c (.int .i64 1)] <|
      .jmp 0 false [.v 11]))) 1 <|
   .jmp 0 false [.v 7]))
theorem a_l22_WatchWho : treeOf cx 12 4 = some A_l22_WatchWho.erase := by kernel_rfl
theorem k_l22_WatchWho : FnOk cx 12 noC 4 F_l22_WatchWho := fn_ok (t := A_l22_WatchWho) a_l22_WatchWho (fun _ => rfl) (ok_of [(13, F_l22_awake.fn), (14, F_r10_Short), (26, F_watch_Who), (28, F_proto_Get), (17, F_watch_Alike)] (by kernel_rfl) (.cons k_l22_awake (.cons k_r10_Short (.cons k_watch_Who (.cons k_proto_Get (.cons k_watch_Alike .nil)))))) (fun x => by kernel_rfl)

end Go.Proofs.Ytihchahfnhoapaa
