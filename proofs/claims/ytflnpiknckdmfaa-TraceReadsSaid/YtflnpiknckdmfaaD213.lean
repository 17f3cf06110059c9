/- More functions of this cut as functions of plain typed data. Printed by a program of this claim's prover; each is checked here to be what the executor makes of the code. -/
import Derived.Test.YtflnpiknckdmfaaD212
set_option linter.unusedVariables false
set_option maxRecDepth 100000
namespace Go.Proofs.Ytflnpiknckdmfaa
open Go.SX
/-! 9: backstay/backstaylaw21.TraceMixes -/
noncomputable def l21_TraceMixes_L1 (s : (Int × (List Deed))) : Option ((Int × (List Deed)) ⊕ (List Deed)) :=
  if decide (s.1 < (List.length s.2 : Int)) then
    (idxO (List.length s.2 : Int) s.1).bind fun v13 =>
    (getO s.2 v13).bind fun v14 =>
    (setO s.2 v13 (Deed.setCore v14 (1 : Int))).bind fun v16 =>
    some (Sum.inl (w64 (s.1 + (1 : Int)), v16))
  else
    some (Sum.inr (s.2))
noncomputable def l21_TraceMixes_L2 (s : (Int × (List Deed))) : Option ((Int × (List Deed)) ⊕ (List Deed)) :=
  if decide (s.1 < (List.length s.2 : Int)) then
    (idxO (List.length s.2 : Int) s.1).bind fun v12 =>
    (getO s.2 v12).bind fun v13 =>
    (setO s.2 v12 (Deed.setCore v13 (0 : Int))).bind fun v15 =>
    some (Sum.inl (w64 (s.1 + (1 : Int)), v15))
  else
    some (Sum.inr (s.2))
noncomputable def l21_TraceMixes (p0 : List Deed) (p1 : List Deed) (p2 : List Bool) : Option Bool :=
  if !l21_awake then
    some (false)
  else
    if (decide ((100 : Int) < (List.length p0 : Int))) || ((decide ((100 : Int) < (List.length p1 : Int))) || (decide ((300 : Int) < (List.length p2 : Int)))) then
      some (true)
    else
      (appO 32 ([] : List Deed) p0).bind fun v6 =>
      (appO 32 ([] : List Deed) p1).bind fun v7 =>
      (
        loopD l21_TraceMixes_L2 ((0 : Int), v6) : Option (List Deed)).bind fun v8 =>
      (
        loopD l21_TraceMixes_L1 ((0 : Int), v7) : Option (List Deed)).bind fun v9 =>
      (trace_Mix v8 v9 p2).bind fun v10 =>
      (
        if decide ((List.length v10 : Int) = (w64 ((List.length v8 : Int) + (List.length v9 : Int)))) then
          (trace_Of v10 (0 : Int)).bind fun v16 =>
          (r21_Same v16 v8).bind fun v17 =>
          if v17 then
            (trace_Of v10 (1 : Int)).bind fun v18 =>
            (r21_Same v18 v9).bind fun v19 =>
            some (v19)
          else
            some (false)
        else
          some (false) : Option Bool).bind fun v11 =>
      some (v11)
noncomputable def F_l21_TraceMixes : FnT := ⟨[.sl tDeed, .sl tDeed, .sl .bool], [.bool], fun x => l21_TraceMixes x.1 x.2.1 x.2.2⟩
noncomputable def A_l21_TraceMixes : TA :=
 .callp 40 F_l21_awake [] 1 <|
 .prim (.un .not) [.v 3] <|
 .ite (.v 4) (
  .jmp 0 false [.c (.bool false)]) (
  .subp [.bool] (
   .prim .len [.v 0] <|
   .prim (.bin .gtr) [.v 5, .c (.int .i64 100)] <|
   .ite (.v 6) (
    .jmp 0 false [.c (.bool true)]) (
    .prim .len [.v 1] <|
    .prim (.bin .gtr) [.v 7, .c (.int .i64 100)] <|
    .ite (.v 8) (
     .jmp 0 false [.c (.bool true)]) (
     .prim .len [.v 2] <|
     .prim (.bin .gtr) [.v 9, .c (.int .i64 300)] <|
     .jmp 0 false [.v 10]))) 1 <|
  .ite (.v 5) (
   .jmp 0 false [.c (.bool true)]) (
   .primH (.app 32) (.sl tDeed) [.c (.sl []), .v 0] <|
   .primH (.app 32) (.sl tDeed) [.c (.sl []), .v 1] <|
   .sub0 [.sl tDeed] (
    .loop [.int .i64, .sl tDeed] [.c (.int .i64 0), .v 6] (
     .prim .len [.v 9] <|
     .prim (.bin .lss) [.v 8, .v 10] <|
     .ite (.v 11) (
      .prim .idx [.v 9, .v 8] <|
      .prim .get [.v 9, .v 12] <|
      .prim (.setf 0) [.v 13, .c (.int .i64 0)] <|
      .prim .set [.v 9, .v 12, .v 14] <|
      .prim (.bin .add) [.v 8, .c (.int .i64 1)] <|
      .jmp 0 true [.v 16, .v 15]) (
      .jmp 1 false [.v 9]))) 1 <|
   .sub0 [.sl tDeed] (
    .loop [.int .i64, .sl tDeed] [.c (.int .i64 0), .v 7] (
     .prim .len [.v 10] <|
     .prim (.bin .lss) [.v 9, .v 11] <|
     .ite (.v 12) (
      .prim .idx [.v 10, .v 9] <|
      .prim .get [.v 10, .v 13] <|
      .prim (.setf 0) [.v 14, .c (.int .i64 1)] <|
      .prim .set [.v 10, .v 13, .v 15] <|
      .prim (.bin .add) [.v 9, .c (.int .i64 1)] <|
      .jmp 0 true [.v 17, .v 16]) (
      .jmp 1 false [.v 10]))) 1 <|
   .call 52 F_trace_Mix [.v 8, .v 9, .v 2] 1 <|
   .sub0 [.bool] (
    .prim .len [.v 10] <|
    .prim .len [.v 8] <|
    .prim .len [.v 9] <|
    .prim (.bin .add) [.v 12, .v 13] <|
    .prim (.bin .eql) [.v 11, .v 14] <|
    .ite (.v 15) (
     .call 50 F_trace_Of [.v 10, .c (.int .i64 0)] 1 <|
     .call 49 F_r21_Same [.v 16, .v 8] 1 <|
     .ite (.v 17) (
      .call 50 F_trace_Of [.v 10, .c (.int .i64 1)] 1 <|
      .call 49 F_r21_Same [.v 18, .v 9] 1 <|
      .jmp 0 false [.v 19]) (
      .jmp 0 false [.c (.bool false)])) (
     .jmp 0 false [.c (.bool false)])) 1 <|
   .jmp 0 false [.v 11]))
theorem a_l21_TraceMixes : treeOf cx 12 9 = some A_l21_TraceMixes.erase := by kernel_rfl
theorem k_l21_TraceMixes : FnOk cx 12 noC 9 F_l21_TraceMixes := fn_ok (t := A_l21_TraceMixes) a_l21_TraceMixes (fun _ => rfl) (ok_of [(40, F_l21_awake.fn), (52, F_trace_Mix), (50, F_trace_Of), (49, F_r21_Same), (50, F_trace_Of), (49, F_r21_Same)] (by kernel_rfl) (.cons k_l21_awake (.cons k_trace_Mix (.cons k_trace_Of (.cons k_r21_Same (.cons k_trace_Of (.cons k_r21_Same .nil))))))) (fun x => by kernel_rfl)

end Go.Proofs.Ytflnpiknckdmfaa
