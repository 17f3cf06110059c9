/- The functions of this cut as trees, written by a program of this claim's prover; each is checked here to be what the executor makes of the code. -/
import Derived.Test.YtkgflipalefmfaaProg
import Derived.Test.YtkgflipalefmfaaLim
import Derived.KernelRfl
namespace Go.Proofs.Ytkgflipalefmfaa
open Go.SX
def tys : List Ty := [.no, .no, .int .i64, .int .i64, .bool, .int .u8, .int .u8, .st [.int .i64, .int .i64, .bool, .int .u8], .st [.int .i64, .int .i64, .bool, .int .u8], .str, .str, .str, .int .u64, .st [.str, .int .u64], .st [.str, .int .u64], .no, .no, .no, .no, .no, .no, .int .i32, .int .u32, .sl (.int .u8), .no, .no, .no, .no, .int .u64, .no, .no, .no, .no, .no, .no, .st [.int .i64, .int .i64, .int .i64, .int .i64, .int .u32], .st [.int .i64, .int .i64, .int .i64, .int .i64, .int .u32], .sl (.sl (.st [.int .i64, .int .i64, .int .i64, .int .i64, .int .u32])), .no, .no, .sl (.st [.int .i64, .int .i64, .int .i64, .int .i64, .int .u32]), .no, .no, .no, .no, .no, .no, .no, .int .u64, .arr 4 (.int .u8), .no, .no, .no, .no, .no, .no, .no, .no, .no, .no, .no, .no, .no, .no, .no, .no, .int .u8, .int .u8, .no, .no, .int .i32, .int .i32, .no, .no, .no]
noncomputable def cx : Cx := { P := Try.prog, ty := tys, own := [], inl := [], keepL := [0, 1, 2, 11, 13, 14, 16, 20, 22, 24, 26, 27, 29, 30, 31, 34, 35, 36, 37, 38, 39, 40, 41, 42, 43, 44, 45, 46, 47, 48, 49, 50, 51, 52, 53, 54], absL := [] }
theorem tyOk : TysOk cx := chkTys_ok (by kernel_rfl)
theorem mixed : Try.prog.follows .mixedOrders = true := by kernel_rfl

/- 3: backstay/backstaylaw01.WordRight -/
def T3 : Tree :=
  .call 10 [] 1 <|
  .prim (.un .not) [.v 5] <|
  .ite (.v 6) (
    .jmp 0 false [.c (.bool false)]) (
    .call 11 [.v 0, .v 1, .v 2] 2 <|
    .call 12 [.v 0, .v 1, .v 2] 2 <|
    .call 13 [.v 1, .v 3] 1 <|
    .prim (.bin .gtr) [.v 3, .c (.int .i64 0)] <|
    .sub (
      .ite (.v 12) (
        .prim (.conv .u64) [.v 1] <|
        .prim (.conv .u64) [.v 3] <|
        .prim (.bin .rem) [.v 13, .v 14] <|
        .prim (.conv .i64) [.v 15] <|
        .jmp 0 false [.v 16]) (
        .jmp 0 false [.c (.int .i64 0)])) 1 <|
    .prim .len [.v 4] <|
    .prim .min2 [.v 14, .c (.int .i64 1000)] <|
    .prim .len [.v 4] <|
    .prim .sub [.v 4, .c (.int .i64 0), .v 15] <|
    .sub (
      .prim (.bin .eql) [.v 7, .v 9] <|
      .ite (.v 18) (
        .prim (.bin .eql) [.v 8, .v 10] <|
        .ite (.v 19) (
          .prim (.bin .eql) [.v 11, .v 13] <|
          .ite (.v 20) (
            .call 14 [.v 1] 1 <|
            .prim .b2s [.v 21] <|
            .call 15 [.v 1] 1 <|
            .prim .b2s [.v 23] <|
            .prim (.bin .eql) [.v 22, .v 24] <|
            .ite (.v 25) (
              .call 16 [.v 17] 1 <|
              .call 17 [.v 17] 1 <|
              .prim (.bin .eql) [.v 26, .v 27] <|
              .jmp 0 false [.v 28, .v 18, .v 19, .v 20, .v 25]) (
              .jmp 0 false [.c (.bool false), .v 18, .v 19, .v 20, .v 25])) (
            .jmp 0 false [.c (.bool false), .v 18, .v 19, .v 20, .c (.bool false)])) (
          .jmp 0 false [.c (.bool false), .v 18, .v 19, .c (.bool false), .c (.bool false)])) (
        .jmp 0 false [.c (.bool false), .v 18, .c (.bool false), .c (.bool false), .c (.bool false)])) 5 <|
    .jmp 0 false [.v 18])
theorem t3 : treeOf cx 12 3 = some T3 := by kernel_rfl

/- 4: backstay/backstaylaw01.WordRound -/
def T4 : Tree :=
  .call 10 [] 1 <|
  .prim (.un .not) [.v 2] <|
  .ite (.v 3) (
    .jmp 0 false [.c (.bool false)]) (
    .call 11 [.c (.int .i64 2), .v 0, .v 1] 2 <|
    .call 11 [.c (.int .i64 3), .v 4, .v 1] 2 <|
    .call 11 [.c (.int .i64 6), .v 0, .v 1] 2 <|
    .call 11 [.c (.int .i64 6), .v 8, .v 1] 2 <|
    .call 11 [.c (.int .i64 7), .v 0, .v 1] 2 <|
    .call 11 [.c (.int .i64 8), .v 0, .v 1] 2 <|
    .call 11 [.c (.int .i64 8), .v 1, .v 0] 2 <|
    .call 11 [.c (.int .i64 5), .v 0, .v 1] 2 <|
    .sub (
      .ite (.v 5) (
        .ite (.v 7) (
          .ite (.v 9) (
            .ite (.v 11) (
              .prim (.bin .eql) [.v 6, .v 0] <|
              .ite (.v 20) (
                .prim (.bin .eql) [.v 10, .v 0] <|
                .ite (.v 21) (
                  .prim (.bin .add) [.v 12, .v 14] <|
                  .prim (.bin .add) [.v 22, .v 16] <|
                  .prim (.bin .eql) [.v 23, .c (.int .u32 1)] <|
                  .ite (.v 24) (
                    .prim (.bin .leq) [.v 18, .v 0] <|
                    .ite (.v 25) (
                      .prim (.bin .leq) [.v 18, .v 1] <|
                      .ite (.v 26) (
                        .call 14 [.v 0] 1 <|
                        .call 16 [.v 27] 1 <|
                        .prim (.bin .eql) [.v 28, .v 0] <|
                        .jmp 0 false [.v 29, .v 7, .v 9, .v 11, .v 20, .v 21, .v 24, .v 25, .v 26]) (
                        .jmp 0 false [.c (.bool false), .v 7, .v 9, .v 11, .v 20, .v 21, .v 24, .v 25, .v 26])) (
                      .jmp 0 false [.c (.bool false), .v 7, .v 9, .v 11, .v 20, .v 21, .v 24, .v 25, .c (.bool false)])) (
                    .jmp 0 false [.c (.bool false), .v 7, .v 9, .v 11, .v 20, .v 21, .v 24, .c (.bool false), .c (.bool false)])) (
                  .jmp 0 false [.c (.bool false), .v 7, .v 9, .v 11, .v 20, .v 21, .c (.bool false), .c (.bool false), .c (.bool false)])) (
                .jmp 0 false [.c (.bool false), .v 7, .v 9, .v 11, .v 20, .c (.bool false), .c (.bool false), .c (.bool false), .c (.bool false)])) (
              .jmp 0 false [.c (.bool false), .v 7, .v 9, .v 11, .c (.bool false), .c (.bool false), .c (.bool false), .c (.bool false), .c (.bool false)])) (
            .jmp 0 false [.c (.bool false), .v 7, .v 9, .c (.bool false), .c (.bool false), .c (.bool false), .c (.bool false), .c (.bool false), .c (.bool false)])) (
          .jmp 0 false [.c (.bool false), .v 7, .c (.bool false), .c (.bool false), .c (.bool false), .c (.bool false), .c (.bool false), .c (.bool false), .c (.bool false)])) (
        .jmp 0 false [.c (.bool false), .c (.bool false), .c (.bool false), .c (.bool false), .c (.bool false), .c (.bool false), .c (.bool false), .c (.bool false), .c (.bool false)])) 9 <|
    .jmp 0 false [.v 20])
theorem t4 : treeOf cx 12 4 = some T4 := by kernel_rfl

/- 5: backstay/backstaylaw01.WordPlace -/
def T5 : Tree :=
  .call 10 [] 1 <|
  .prim (.un .not) [.v 2] <|
  .ite (.v 3) (
    .jmp 0 false [.c (.bool false)]) (
    .prim (.bin .eql) [.v 1, .c (.int .u8 0)] <|
    .ite (.v 4) (
      .call 13 [.v 0, .c (.int .i64 0)] 1 <|
      .prim (.bin .eql) [.v 5, .c (.int .i64 0)] <|
      .jmp 0 false [.v 6]) (
      .prim (.conv .i64) [.v 1] <|
      .call 13 [.v 0, .v 5] 1 <|
      .sub (
        .prim (.bin .lss) [.v 6, .c (.int .i64 0)] <|
        .ite (.v 7) (
          .jmp 0 false [.v 7, .c (.bool true)]) (
          .prim (.bin .geq) [.v 6, .v 5] <|
          .jmp 0 false [.v 7, .v 8])) 2 <|
      .ite (.v 8) (
        .jmp 0 false [.c (.bool false)]) (
        .prim (.bin .eql) [.v 0, .c (.int .u32 4294967295)] <|
        .ite (.v 9) (
          .jmp 0 false [.c (.bool true)]) (
          .prim (.bin .add) [.v 0, .c (.int .u32 1)] <|
          .call 13 [.v 10, .v 5] 1 <|
          .sub (
            .prim (.bin .add) [.v 6, .c (.int .i64 1)] <|
            .prim (.bin .eql) [.v 11, .v 12] <|
            .ite (.v 13) (
              .jmp 0 false [.c (.bool true), .v 12, .v 13]) (
              .prim (.bin .sub) [.v 5, .c (.int .i64 1)] <|
              .prim (.bin .eql) [.v 6, .v 14] <|
              .ite (.v 15) (
                .prim (.bin .eql) [.v 11, .c (.int .i64 0)] <|
                .jmp 0 false [.v 16, .v 12, .v 13]) (
                .jmp 0 false [.c (.bool false), .v 12, .v 13]))) 3 <|
          .jmp 0 false [.v 12]))))
theorem t5 : treeOf cx 12 5 = some T5 := by kernel_rfl

/- 6: backstay/backstaylaw01.WordSums -/
def T6 : Tree :=
  .call 10 [] 1 <|
  .prim (.un .not) [.v 3] <|
  .ite (.v 4) (
    .jmp 0 false [.c (.bool false)]) (
    .call 11 [.c (.int .i64 2), .v 0, .v 1] 2 <|
    .call 11 [.c (.int .i64 4), .v 5, .v 2] 2 <|
    .call 11 [.c (.int .i64 4), .v 0, .v 2] 2 <|
    .call 11 [.c (.int .i64 4), .v 1, .v 2] 2 <|
    .call 11 [.c (.int .i64 2), .v 9, .v 11] 2 <|
    .call 11 [.c (.int .i64 2), .v 1, .v 0] 2 <|
    .call 11 [.c (.int .i64 4), .v 2, .v 0] 2 <|
    .sub (
      .prim (.bin .eql) [.v 7, .v 13] <|
      .ite (.v 19) (
        .prim (.bin .eql) [.v 5, .v 15] <|
        .ite (.v 20) (
          .prim (.bin .eql) [.v 9, .v 17] <|
          .jmp 0 false [.v 21, .v 19, .v 20]) (
          .jmp 0 false [.c (.bool false), .v 19, .v 20])) (
        .jmp 0 false [.c (.bool false), .v 19, .c (.bool false)])) 3 <|
    .jmp 0 false [.v 19])
theorem t6 : treeOf cx 12 6 = some T6 := by kernel_rfl

/- 7: backstay/backstaylaw02.IsaRight -/
def T7L1 : Tree :=
  .prim .len [.v 2] <|
  .prim (.bin .lss) [.v 7, .v 8] <|
  .ite (.v 9) (
    .prim .get [.v 2, .v 7] <|
    .call 20 [.v 10] 1 <|
    .prim .get [.v 2, .v 7] <|
    .call 21 [.v 12] 1 <|
    .prim (.bin .neq) [.v 11, .v 13] <|
    .ite (.v 14) (
      .jmp 2 false [.c (.bool false)]) (
      .prim (.bin .add) [.v 7, .c (.int .i64 1)] <|
      .jmp 0 true [.v 15])) (
    .jmp 1 false [.v 7, .v 8, .v 9])
def T7 : Tree :=
  .call 18 [] 1 <|
  .prim (.un .not) [.v 3] <|
  .ite (.v 4) (
    .jmp 0 false [.c (.bool false)]) (
    .call 19 [.v 2] 1 <|
    .prim (.un .not) [.v 5] <|
    .ite (.v 6) (
      .jmp 0 false [.c (.bool true)]) (
      .sub (
        .loop [.c (.int .i64 0)] T7L1) 3 <|
      .sub (
        .call 22 [.v 0, .v 1] 1 <|
        .call 23 [.v 0, .v 1] 1 <|
        .prim (.bin .eql) [.v 10, .v 11] <|
        .ite (.v 12) (
          .call 24 [.v 2] 1 <|
          .call 25 [.v 2] 1 <|
          .prim (.bin .eql) [.v 13, .v 14] <|
          .jmp 0 false [.v 15, .v 10, .v 11, .v 12]) (
          .jmp 0 false [.c (.bool false), .v 10, .v 11, .v 12])) 4 <|
      .jmp 0 false [.v 10]))
theorem t7 : treeOf cx 12 7 = some T7 := by kernel_rfl

/- 8: backstay/backstaylaw02.IsaUses -/
def T8 : Tree :=
  .call 18 [] 1 <|
  .prim (.un .not) [.v 6] <|
  .ite (.v 7) (
    .jmp 0 false [.c (.bool false)]) (
    .call 26 [.v 0] 4 <|
    .sub (
      .prim (.bin .lss) [.v 0, .c (.int .i64 1)] <|
      .ite (.v 12) (
        .jmp 0 false [.v 12, .c (.bool true)]) (
        .prim (.bin .gtr) [.v 0, .c (.int .i64 16)] <|
        .jmp 0 false [.v 12, .v 13])) 2 <|
    .ite (.v 13) (
      .sub (
        .prim (.un .not) [.v 8] <|
        .ite (.v 14) (
          .prim (.un .not) [.v 9] <|
          .ite (.v 15) (
            .prim (.un .not) [.v 10] <|
            .ite (.v 16) (
              .prim (.un .not) [.v 11] <|
              .ite (.v 17) (
                .prim .mk [.v 0, .c (.int .i64 0), .c (.int .i64 0), .c (.int .i64 0), .c (.int .u32 0)] <|
                .call 22 [.v 18, .c (.int .i64 5)] 1 <|
                .prim (.un .not) [.v 19] <|
                .jmp 0 false [.v 20, .v 14, .v 15, .v 16, .v 17]) (
                .jmp 0 false [.c (.bool false), .v 14, .v 15, .v 16, .v 17])) (
              .jmp 0 false [.c (.bool false), .v 14, .v 15, .v 16, .c (.bool false)])) (
            .jmp 0 false [.c (.bool false), .v 14, .v 15, .c (.bool false), .c (.bool false)])) (
          .jmp 0 false [.c (.bool false), .v 14, .c (.bool false), .c (.bool false), .c (.bool false)])) 5 <|
      .jmp 0 false [.v 14]) (
      .prim (.bin .rem) [.v 5, .c (.int .u8 64)] <|
      .prim (.conv .i64) [.v 14] <|
      .prim (.bin .add) [.v 15, .c (.int .i64 1)] <|
      .prim .mk [.v 0, .c (.int .i64 0), .c (.int .i64 0), .c (.int .i64 0), .c (.int .u32 0)] <|
      .sub (
        .ite (.v 8) (
          .prim (.bin .rem) [.v 1, .c (.int .u8 8)] <|
          .prim (.conv .i64) [.v 18] <|
          .prim (.setf 1) [.v 17, .v 19] <|
          .jmp 0 false [.v 20]) (
          .jmp 0 false [.v 17])) 1 <|
      .sub (
        .ite (.v 9) (
          .prim (.bin .rem) [.v 2, .c (.int .u8 8)] <|
          .prim (.conv .i64) [.v 19] <|
          .prim (.setf 2) [.v 18, .v 20] <|
          .jmp 0 false [.v 21]) (
          .jmp 0 false [.v 18])) 1 <|
      .sub (
        .ite (.v 10) (
          .prim (.bin .rem) [.v 3, .c (.int .u8 8)] <|
          .prim (.conv .i64) [.v 20] <|
          .prim (.setf 3) [.v 19, .v 21] <|
          .jmp 0 false [.v 22]) (
          .jmp 0 false [.v 19])) 1 <|
      .sub (
        .ite (.v 11) (
          .prim (.conv .u32) [.v 16] <|
          .prim (.bin .rem) [.v 4, .v 21] <|
          .prim (.setf 4) [.v 20, .v 22] <|
          .jmp 0 false [.v 23]) (
          .jmp 0 false [.v 20])) 1 <|
      .call 22 [.v 21, .v 16] 1 <|
      .prim (.un .not) [.v 22] <|
      .ite (.v 23) (
        .jmp 0 false [.c (.bool false)]) (
        .prim (.conv .i64) [.v 1] <|
        .prim (.bin .add) [.c (.int .i64 8), .v 24] <|
        .prim (.setf 1) [.v 21, .v 25] <|
        .prim (.conv .i64) [.v 2] <|
        .prim (.bin .add) [.c (.int .i64 8), .v 27] <|
        .prim (.setf 2) [.v 21, .v 28] <|
        .prim (.conv .i64) [.v 3] <|
        .prim (.bin .add) [.c (.int .i64 8), .v 30] <|
        .prim (.setf 3) [.v 21, .v 31] <|
        .prim (.conv .u32) [.v 16] <|
        .prim (.bin .rem) [.v 4, .c (.int .u32 1000)] <|
        .prim (.bin .add) [.v 33, .v 34] <|
        .prim (.setf 4) [.v 21, .v 35] <|
        .sub (
          .call 22 [.v 26, .v 16] 1 <|
          .prim (.un .not) [.v 37] <|
          .ite (.v 38) (
            .call 22 [.v 29, .v 16] 1 <|
            .prim (.un .not) [.v 39] <|
            .ite (.v 40) (
              .call 22 [.v 32, .v 16] 1 <|
              .prim (.un .not) [.v 41] <|
              .ite (.v 42) (
                .call 22 [.v 36, .v 16] 1 <|
                .prim (.bin .eql) [.v 0, .c (.int .i64 1)] <|
                .prim (.bin .eql) [.v 43, .v 44] <|
                .jmp 0 false [.v 45, .v 37, .v 38, .v 40, .v 42]) (
                .jmp 0 false [.c (.bool false), .v 37, .v 38, .v 40, .v 42])) (
              .jmp 0 false [.c (.bool false), .v 37, .v 38, .v 40, .c (.bool false)])) (
            .jmp 0 false [.c (.bool false), .v 37, .v 38, .c (.bool false), .c (.bool false)])) 5 <|
        .jmp 0 false [.v 37])))
theorem t8 : treeOf cx 12 8 = some T8 := by kernel_rfl

/- 9: backstay/backstaylaw02.IsaStays -/
def T9L1 : Tree :=
  .prim .len [.v 0] <|
  .prim (.bin .lss) [.v 6, .v 7] <|
  .ite (.v 8) (
    .sub (
      .prim .get [.v 0, .v 6] <|
      .prim (.fld 0) [.v 9] <|
      .prim (.bin .eql) [.v 10, .c (.int .i64 13)] <|
      .ite (.v 11) (
        .jmp 0 false [.c (.bool true), .v 9, .v 10, .v 11]) (
        .prim .get [.v 0, .v 6] <|
        .prim (.fld 0) [.v 12] <|
        .prim (.bin .eql) [.v 13, .c (.int .i64 14)] <|
        .jmp 0 false [.v 14, .v 9, .v 10, .v 11])) 4 <|
    .sub (
      .ite (.v 9) (
        .prim .get [.v 0, .v 6] <|
        .prim (.fld 4) [.v 13] <|
        .prim (.conv .i64) [.v 14] <|
        .prim .len [.v 0] <|
        .prim (.bin .geq) [.v 15, .v 16] <|
        .ite (.v 17) (
          .jmp 0 false [.v 17, .c (.bool true)]) (
          .prim .get [.v 0, .v 6] <|
          .prim (.fld 0) [.v 18] <|
          .prim (.bin .neq) [.v 19, .c (.int .i64 13)] <|
          .ite (.v 20) (
            .prim .get [.v 0, .v 6] <|
            .prim (.fld 0) [.v 21] <|
            .prim (.bin .neq) [.v 22, .c (.int .i64 16)] <|
            .ite (.v 23) (
              .prim (.bin .add) [.v 6, .c (.int .i64 1)] <|
              .prim .len [.v 0] <|
              .prim (.bin .geq) [.v 24, .v 25] <|
              .jmp 0 false [.v 17, .v 26]) (
              .jmp 0 false [.v 17, .c (.bool false)])) (
            .jmp 0 false [.v 17, .c (.bool false)]))) (
        .prim .get [.v 0, .v 6] <|
        .prim (.fld 0) [.v 13] <|
        .prim (.bin .neq) [.v 14, .c (.int .i64 13)] <|
        .ite (.v 15) (
          .prim .get [.v 0, .v 6] <|
          .prim (.fld 0) [.v 16] <|
          .prim (.bin .neq) [.v 17, .c (.int .i64 16)] <|
          .ite (.v 18) (
            .prim (.bin .add) [.v 6, .c (.int .i64 1)] <|
            .prim .len [.v 0] <|
            .prim (.bin .geq) [.v 19, .v 20] <|
            .jmp 0 false [.c (.bool false), .v 21]) (
            .jmp 0 false [.c (.bool false), .c (.bool false)])) (
          .jmp 0 false [.c (.bool false), .c (.bool false)]))) 2 <|
    .ite (.v 14) (
      .jmp 2 false [.c (.bool false)]) (
      .prim (.bin .add) [.v 6, .c (.int .i64 1)] <|
      .jmp 0 true [.v 15])) (
    .jmp 1 false [.v 6, .v 7, .v 8])
def T9 : Tree :=
  .call 18 [] 1 <|
  .prim (.un .not) [.v 1] <|
  .ite (.v 2) (
    .jmp 0 false [.c (.bool false)]) (
    .sub (
      .prim .len [.v 0] <|
      .prim (.bin .gtr) [.v 3, .c (.int .i64 80)] <|
      .ite (.v 4) (
        .jmp 0 false [.v 3, .v 4, .c (.bool true)]) (
        .call 20 [.v 0] 1 <|
        .prim (.un .not) [.v 5] <|
        .jmp 0 false [.v 3, .v 4, .v 6])) 3 <|
    .ite (.v 5) (
      .jmp 0 false [.c (.bool true)]) (
      .sub (
        .loop [.c (.int .i64 0)] T9L1) 3 <|
      .jmp 0 false [.c (.bool true)]))
theorem t9 : treeOf cx 12 9 = some T9 := by kernel_rfl

/- 10: backstay/backstaylaw01.awake -/
def T10 : Tree :=
  .call 11 [.c (.int .i64 2), .c (.int .u32 4294967295), .c (.int .u32 3)] 2 <|
  .call 14 [.c (.int .u32 258)] 1 <|
  .sub (
    .ite (.v 1) (
      .prim (.bin .eql) [.v 0, .c (.int .u32 2)] <|
      .ite (.v 3) (
        .call 13 [.c (.int .u32 17), .c (.int .i64 5)] 1 <|
        .prim (.bin .eql) [.v 4, .c (.int .i64 2)] <|
        .ite (.v 5) (
          .prim .len [.v 2] <|
          .prim (.bin .eql) [.v 6, .c (.int .i64 4)] <|
          .ite (.v 7) (
            .prim .get [.v 2, .c (.int .i64 2)] <|
            .prim (.bin .eql) [.v 8, .c (.int .u8 1)] <|
            .ite (.v 9) (
              .call 16 [.v 2] 1 <|
              .prim (.bin .eql) [.v 10, .c (.int .u32 258)] <|
              .jmp 0 false [.v 11, .v 3, .v 5, .v 7, .v 9]) (
              .jmp 0 false [.c (.bool false), .v 3, .v 5, .v 7, .v 9])) (
            .jmp 0 false [.c (.bool false), .v 3, .v 5, .v 7, .c (.bool false)])) (
          .jmp 0 false [.c (.bool false), .v 3, .v 5, .c (.bool false), .c (.bool false)])) (
        .jmp 0 false [.c (.bool false), .v 3, .c (.bool false), .c (.bool false), .c (.bool false)])) (
      .jmp 0 false [.c (.bool false), .c (.bool false), .c (.bool false), .c (.bool false), .c (.bool false)])) 5 <|
  .jmp 0 false [.v 3]
theorem t10 : treeOf cx 12 10 = some T10 := by kernel_rfl

/- 11: backstay/word.Do -/
def T11 : Tree :=
  .prim (.bin .eql) [.v 0, .c (.int .i64 2)] <|
  .ite (.v 3) (
    .prim (.bin .add) [.v 1, .v 2] <|
    .jmp 0 false [.v 4, .c (.bool true)]) (
    .prim (.bin .eql) [.v 0, .c (.int .i64 3)] <|
    .ite (.v 4) (
      .prim (.bin .sub) [.v 1, .v 2] <|
      .jmp 0 false [.v 5, .c (.bool true)]) (
      .prim (.bin .eql) [.v 0, .c (.int .i64 4)] <|
      .ite (.v 5) (
        .prim (.bin .mul) [.v 1, .v 2] <|
        .jmp 0 false [.v 6, .c (.bool true)]) (
        .prim (.bin .eql) [.v 0, .c (.int .i64 5)] <|
        .ite (.v 6) (
          .prim (.bin .and) [.v 1, .v 2] <|
          .jmp 0 false [.v 7, .c (.bool true)]) (
          .prim (.bin .eql) [.v 0, .c (.int .i64 6)] <|
          .ite (.v 7) (
            .prim (.bin .xor) [.v 1, .v 2] <|
            .jmp 0 false [.v 8, .c (.bool true)]) (
            .prim (.bin .eql) [.v 0, .c (.int .i64 7)] <|
            .ite (.v 8) (
              .prim (.bin .eql) [.v 1, .v 2] <|
              .call 27 [.v 9] 1 <|
              .jmp 0 false [.v 10, .c (.bool true)]) (
              .prim (.bin .eql) [.v 0, .c (.int .i64 8)] <|
              .ite (.v 9) (
                .prim (.bin .lss) [.v 1, .v 2] <|
                .call 27 [.v 10] 1 <|
                .jmp 0 false [.v 11, .c (.bool true)]) (
                .jmp 0 false [.c (.int .u32 0), .c (.bool false)])))))))
theorem t11 : treeOf cx 12 11 = some T11 := by kernel_rfl

/- 12: backstay/backstayref01.Do -/
def T12 : Tree :=
  .prim (.conv .u64) [.v 1] <|
  .prim (.conv .u64) [.v 2] <|
  .prim (.bin .eql) [.v 0, .c (.int .i64 2)] <|
  .ite (.v 5) (
    .prim (.bin .add) [.v 3, .v 4] <|
    .prim (.bin .rem) [.v 6, .c (.int .u64 4294967296)] <|
    .prim (.conv .u32) [.v 7] <|
    .jmp 0 false [.v 8, .c (.bool true)]) (
    .prim (.bin .eql) [.v 0, .c (.int .i64 3)] <|
    .ite (.v 6) (
      .prim (.bin .add) [.v 3, .c (.int .u64 4294967296)] <|
      .prim (.bin .sub) [.v 7, .v 4] <|
      .prim (.bin .rem) [.v 8, .c (.int .u64 4294967296)] <|
      .prim (.conv .u32) [.v 9] <|
      .jmp 0 false [.v 10, .c (.bool true)]) (
      .prim (.bin .eql) [.v 0, .c (.int .i64 4)] <|
      .ite (.v 7) (
        .prim (.bin .mul) [.v 3, .v 4] <|
        .prim (.bin .rem) [.v 8, .c (.int .u64 4294967296)] <|
        .prim (.conv .u32) [.v 9] <|
        .jmp 0 false [.v 10, .c (.bool true)]) (
        .prim (.bin .eql) [.v 0, .c (.int .i64 5)] <|
        .ite (.v 8) (
          .call 28 [.v 1, .v 2, .c (.bool true)] 1 <|
          .jmp 0 false [.v 9, .c (.bool true)]) (
          .prim (.bin .eql) [.v 0, .c (.int .i64 6)] <|
          .ite (.v 9) (
            .call 28 [.v 1, .v 2, .c (.bool false)] 1 <|
            .jmp 0 false [.v 10, .c (.bool true)]) (
            .sub (
              .prim (.bin .eql) [.v 0, .c (.int .i64 7)] <|
              .ite (.v 10) (
                .prim (.bin .eql) [.v 1, .v 2] <|
                .ite (.v 11) (
                  .jmp 0 false [.v 10, .v 11, .c (.bool true)]) (
                  .prim (.bin .eql) [.v 0, .c (.int .i64 8)] <|
                  .ite (.v 12) (
                    .prim (.bin .lss) [.v 1, .v 2] <|
                    .jmp 0 false [.v 10, .v 11, .v 13]) (
                    .jmp 0 false [.v 10, .v 11, .c (.bool false)]))) (
                .prim (.bin .eql) [.v 0, .c (.int .i64 8)] <|
                .ite (.v 11) (
                  .prim (.bin .lss) [.v 1, .v 2] <|
                  .jmp 0 false [.v 10, .c (.bool false), .v 12]) (
                  .jmp 0 false [.v 10, .c (.bool false), .c (.bool false)]))) 3 <|
            .ite (.v 12) (
              .jmp 0 false [.c (.int .u32 1), .c (.bool true)]) (
              .sub (
                .prim (.bin .eql) [.v 0, .c (.int .i64 7)] <|
                .ite (.v 13) (
                  .jmp 0 false [.c (.bool true), .v 13]) (
                  .prim (.bin .eql) [.v 0, .c (.int .i64 8)] <|
                  .jmp 0 false [.v 14, .v 13])) 2 <|
              .jmp 0 false [.c (.int .u32 0), .v 13]))))))
theorem t12 : treeOf cx 12 12 = some T12 := by kernel_rfl

/- 13: backstay/word.Place -/
def T13 : Tree :=
  .prim (.bin .lss) [.v 1, .c (.int .i64 1)] <|
  .ite (.v 2) (
    .jmp 0 false [.c (.int .i64 0)]) (
    .prim (.conv .u64) [.v 0] <|
    .prim (.conv .u64) [.v 1] <|
    .prim (.bin .rem) [.v 3, .v 4] <|
    .prim (.conv .i64) [.v 5] <|
    .jmp 0 false [.v 6])
theorem t13 : treeOf cx 12 13 = some T13 := by kernel_rfl

/- 14: backstay/word.Bytes -/
def T14 : Tree :=
  .prim (.bin .shr) [.v 0, .c (.int .u64 24)] <|
  .prim (.conv .u8) [.v 1] <|
  .prim (.bin .shr) [.v 0, .c (.int .u64 16)] <|
  .prim (.conv .u8) [.v 3] <|
  .prim (.bin .shr) [.v 0, .c (.int .u64 8)] <|
  .prim (.conv .u8) [.v 5] <|
  .prim (.conv .u8) [.v 0] <|
  .prim .mks [.v 2, .v 4, .v 6, .v 7] <|
  .jmp 0 false [.v 8]
theorem t14 : treeOf cx 12 14 = some T14 := by kernel_rfl

/- 15: backstay/backstayref01.Bytes -/
def T15 : Tree :=
  .prim (.bin .quo) [.v 0, .c (.int .u32 16777216)] <|
  .prim (.conv .u8) [.v 1] <|
  .prim (.bin .quo) [.v 0, .c (.int .u32 65536)] <|
  .prim (.bin .rem) [.v 3, .c (.int .u32 256)] <|
  .prim (.conv .u8) [.v 4] <|
  .prim (.bin .quo) [.v 0, .c (.int .u32 256)] <|
  .prim (.bin .rem) [.v 6, .c (.int .u32 256)] <|
  .prim (.conv .u8) [.v 7] <|
  .prim (.bin .rem) [.v 0, .c (.int .u32 256)] <|
  .prim (.conv .u8) [.v 9] <|
  .prim .mks [.v 2, .v 5, .v 8, .v 10] <|
  .jmp 0 false [.v 11]
theorem t15 : treeOf cx 12 15 = some T15 := by kernel_rfl

/- 16: backstay/word.Of -/
def T16L1 : Tree :=
  .prim (.bin .lss) [.v 3, .c (.int .i64 4)] <|
  .ite (.v 4) (
    .prim .get [.v 1, .v 3] <|
    .prim (.bin .shl) [.v 2, .c (.int .u64 8)] <|
    .prim (.conv .u32) [.v 5] <|
    .prim (.bin .or) [.v 6, .v 7] <|
    .prim (.bin .add) [.v 3, .c (.int .i64 1)] <|
    .jmp 0 true [.v 8, .v 9]) (
    .jmp 1 false [.v 2, .v 3, .v 4])
def T16 : Tree :=
  .prim .cpy [.c (.agg [(.int .u8 0), (.int .u8 0), (.int .u8 0), (.int .u8 0)]), .v 0] <|
  .sub (
    .loop [.c (.int .u32 0), .c (.int .i64 0)] T16L1) 3 <|
  .jmp 0 false [.v 2]
theorem t16 : treeOf cx 12 16 = some T16 := by kernel_rfl

/- 17: backstay/backstayref01.Of -/
def T17L1 : Tree :=
  .prim (.bin .lss) [.v 2, .c (.int .i64 4)] <|
  .ite (.v 3) (
    .prim (.bin .mul) [.v 1, .c (.int .u32 256)] <|
    .prim .len [.v 0] <|
    .prim (.bin .lss) [.v 2, .v 5] <|
    .sub (
      .ite (.v 6) (
        .prim .get [.v 0, .v 2] <|
        .prim (.conv .u32) [.v 7] <|
        .prim (.bin .add) [.v 4, .v 8] <|
        .jmp 0 false [.v 9]) (
        .jmp 0 false [.v 4])) 1 <|
    .prim (.bin .add) [.v 2, .c (.int .i64 1)] <|
    .jmp 0 true [.v 7, .v 8]) (
    .jmp 1 false [.v 1, .v 2, .v 3])
def T17 : Tree :=
  .sub (
    .loop [.c (.int .u32 0), .c (.int .i64 0)] T17L1) 3 <|
  .jmp 0 false [.v 1]
theorem t17 : treeOf cx 12 17 = some T17 := by kernel_rfl

/- 18: backstay/backstaylaw02.awake -/
def T18 : Tree :=
  .call 26 [.c (.int .i64 9)] 4 <|
  .sub (
    .call 20 [.c (.sl [(.agg [(.int .i64 1), (.int .i64 0), (.int .i64 0), (.int .i64 0), (.int .u32 7)]), (.agg [(.int .i64 15), (.int .i64 0), (.int .i64 0), (.int .i64 0), (.int .u32 0)]), (.agg [(.int .i64 16), (.int .i64 0), (.int .i64 0), (.int .i64 0), (.int .u32 0)])])] 1 <|
    .ite (.v 4) (
      .call 20 [.c (.sl [(.agg [(.int .i64 1), (.int .i64 0), (.int .i64 0), (.int .i64 0), (.int .u32 7)]), (.agg [(.int .i64 15), (.int .i64 0), (.int .i64 0), (.int .i64 0), (.int .u32 0)])])] 1 <|
      .prim (.un .not) [.v 5] <|
      .ite (.v 6) (
        .call 24 [.c (.sl [(.sl [(.agg [(.int .i64 1), (.int .i64 0), (.int .i64 0), (.int .i64 0), (.int .u32 7)]), (.agg [(.int .i64 15), (.int .i64 0), (.int .i64 0), (.int .i64 0), (.int .u32 0)]), (.agg [(.int .i64 16), (.int .i64 0), (.int .i64 0), (.int .i64 0), (.int .u32 0)])])])] 1 <|
        .ite (.v 7) (
          .call 22 [.c (.agg [(.int .i64 1), (.int .i64 0), (.int .i64 0), (.int .i64 0), (.int .u32 7)]), .c (.int .i64 1)] 1 <|
          .ite (.v 8) (
            .ite (.v 0) (
              .ite (.v 1) (
                .prim (.un .not) [.v 2] <|
                .ite (.v 9) (
                  .prim (.un .not) [.v 3] <|
                  .jmp 0 false [.v 10, .v 4, .v 6, .v 7, .v 8, .v 0, .v 1, .v 9]) (
                  .jmp 0 false [.c (.bool false), .v 4, .v 6, .v 7, .v 8, .v 0, .v 1, .v 9])) (
                .jmp 0 false [.c (.bool false), .v 4, .v 6, .v 7, .v 8, .v 0, .v 1, .c (.bool false)])) (
              .jmp 0 false [.c (.bool false), .v 4, .v 6, .v 7, .v 8, .v 0, .c (.bool false), .c (.bool false)])) (
            .jmp 0 false [.c (.bool false), .v 4, .v 6, .v 7, .v 8, .c (.bool false), .c (.bool false), .c (.bool false)])) (
          .jmp 0 false [.c (.bool false), .v 4, .v 6, .v 7, .c (.bool false), .c (.bool false), .c (.bool false), .c (.bool false)])) (
        .jmp 0 false [.c (.bool false), .v 4, .v 6, .c (.bool false), .c (.bool false), .c (.bool false), .c (.bool false), .c (.bool false)])) (
      .jmp 0 false [.c (.bool false), .v 4, .c (.bool false), .c (.bool false), .c (.bool false), .c (.bool false), .c (.bool false), .c (.bool false)])) 8 <|
  .jmp 0 false [.v 4]
theorem t18 : treeOf cx 12 18 = some T18 := by kernel_rfl

/- 19: backstay/backstayref02.Short -/
def T19L1 : Tree :=
  .prim .len [.v 0] <|
  .prim (.bin .lss) [.v 3, .v 4] <|
  .ite (.v 5) (
    .prim .get [.v 0, .v 3] <|
    .prim .len [.v 6] <|
    .prim (.bin .gtr) [.v 7, .c (.int .i64 80)] <|
    .ite (.v 8) (
      .jmp 2 false [.c (.bool false)]) (
      .prim (.bin .add) [.v 3, .c (.int .i64 1)] <|
      .jmp 0 true [.v 9])) (
    .jmp 1 false [.v 3, .v 4, .v 5])
def T19 : Tree :=
  .prim .len [.v 0] <|
  .prim (.bin .gtr) [.v 1, .c (.int .i64 6)] <|
  .ite (.v 2) (
    .jmp 0 false [.c (.bool false)]) (
    .sub (
      .loop [.c (.int .i64 0)] T19L1) 3 <|
    .jmp 0 false [.c (.bool true)])
theorem t19 : treeOf cx 12 19 = some T19 := by kernel_rfl

/- 20: backstay/isa.Right -/
def T20L1 : Tree :=
  .prim (.bin .lss) [.v 11, .v 10] <|
  .ite (.v 12) (
    .prim .get [.v 0, .v 11] <|
    .sub (
      .prim .len [.v 0] <|
      .call 22 [.v 13, .v 14] 1 <|
      .prim (.un .not) [.v 15] <|
      .jmp 0 false [.v 16]) 1 <|
    .ite (.v 14) (
      .jmp 2 false [.v 11]) (
      .prim (.bin .add) [.v 11, .c (.int .i64 1)] <|
      .jmp 0 true [.v 15])) (
    .jmp 1 false [.v 11, .v 12])
def T20 : Tree :=
  .sub (
    .prim .len [.v 0] <|
    .prim (.bin .lss) [.v 1, .c (.int .i64 1)] <|
    .ite (.v 2) (
      .jmp 0 false [.v 1, .v 2, .c (.bool true)]) (
      .prim .len [.v 0] <|
      .prim (.bin .gtr) [.v 3, .c (.int .i64 64)] <|
      .jmp 0 false [.v 1, .v 2, .v 4])) 3 <|
  .ite (.v 3) (
    .jmp 0 false [.c (.bool false)]) (
    .prim .len [.v 0] <|
    .prim (.bin .sub) [.v 4, .c (.int .i64 1)] <|
    .prim .get [.v 0, .v 5] <|
    .prim (.fld 0) [.v 6] <|
    .sub (
      .prim (.bin .eql) [.v 7, .c (.int .i64 16)] <|
      .ite (.v 8) (
        .jmp 0 false [.c (.bool true), .v 8]) (
        .prim (.bin .eql) [.v 7, .c (.int .i64 13)] <|
        .jmp 0 false [.v 9, .v 8])) 2 <|
    .sub (
      .ite (.v 8) (
        .sub (
          .sub (
            .prim .len [.v 0] <|
            .sub (
              .loop [.c (.int .i64 0)] T20L1) 2 <|
            .jmp 0 false [.c (.int .i64 (-1))]) 1 <|
          .prim (.bin .geq) [.v 10, .c (.int .i64 0)] <|
          .jmp 0 false [.v 11]) 1 <|
        .prim (.un .not) [.v 10] <|
        .jmp 0 false [.v 11]) (
        .jmp 0 false [.c (.bool false)])) 1 <|
    .jmp 0 false [.v 10])
theorem t20 : treeOf cx 12 20 = some T20 := by kernel_rfl

/- 21: backstay/backstayref02.Right -/
def T21L1 : Tree :=
  .prim .len [.v 0] <|
  .prim (.bin .lss) [.v 4, .v 5] <|
  .ite (.v 6) (
    .prim .get [.v 0, .v 4] <|
    .prim .len [.v 0] <|
    .call 23 [.v 7, .v 8] 1 <|
    .prim (.un .not) [.v 9] <|
    .ite (.v 10) (
      .jmp 2 false [.c (.bool false)]) (
      .prim (.bin .add) [.v 4, .c (.int .i64 1)] <|
      .jmp 0 true [.v 11])) (
    .jmp 1 false [.v 4, .v 5, .v 6])
def T21 : Tree :=
  .sub (
    .prim .len [.v 0] <|
    .prim (.bin .eql) [.v 1, .c (.int .i64 0)] <|
    .ite (.v 2) (
      .jmp 0 false [.v 1, .v 2, .c (.bool true)]) (
      .prim .len [.v 0] <|
      .prim (.bin .gtr) [.v 3, .c (.int .i64 64)] <|
      .jmp 0 false [.v 1, .v 2, .v 4])) 3 <|
  .ite (.v 3) (
    .jmp 0 false [.c (.bool false)]) (
    .sub (
      .loop [.c (.int .i64 0)] T21L1) 3 <|
    .sub (
      .prim .len [.v 0] <|
      .prim (.bin .sub) [.v 7, .c (.int .i64 1)] <|
      .prim .get [.v 0, .v 8] <|
      .prim (.fld 0) [.v 9] <|
      .prim (.bin .eql) [.v 10, .c (.int .i64 16)] <|
      .ite (.v 11) (
        .jmp 0 false [.c (.bool true), .v 7, .v 8, .v 9, .v 10, .v 11]) (
        .prim .len [.v 0] <|
        .prim (.bin .sub) [.v 12, .c (.int .i64 1)] <|
        .prim .get [.v 0, .v 13] <|
        .prim (.fld 0) [.v 14] <|
        .prim (.bin .eql) [.v 15, .c (.int .i64 13)] <|
        .jmp 0 false [.v 16, .v 7, .v 8, .v 9, .v 10, .v 11])) 6 <|
    .jmp 0 false [.v 7])
theorem t21 : treeOf cx 12 21 = some T21 := by kernel_rfl

/- 22: backstay/isa.May -/
def T22 : Tree :=
  .prim (.fld 0) [.v 0] <|
  .call 26 [.v 2] 4 <|
  .sub (
    .prim (.fld 0) [.v 0] <|
    .prim (.bin .lss) [.v 7, .c (.int .i64 1)] <|
    .ite (.v 8) (
      .jmp 0 false [.v 7, .v 8, .c (.bool true), .c (.bool true), .c (.bool true), .c (.bool true)]) (
      .prim (.fld 0) [.v 0] <|
      .prim (.bin .gtr) [.v 9, .c (.int .i64 16)] <|
      .ite (.v 10) (
        .jmp 0 false [.v 7, .v 8, .v 10, .c (.bool true), .c (.bool true), .c (.bool true)]) (
        .prim (.fld 1) [.v 0] <|
        .call 31 [.v 11, .v 3] 1 <|
        .prim (.un .not) [.v 12] <|
        .ite (.v 13) (
          .jmp 0 false [.v 7, .v 8, .v 10, .v 13, .c (.bool true), .c (.bool true)]) (
          .prim (.fld 2) [.v 0] <|
          .call 31 [.v 14, .v 4] 1 <|
          .prim (.un .not) [.v 15] <|
          .ite (.v 16) (
            .jmp 0 false [.v 7, .v 8, .v 10, .v 13, .v 16, .c (.bool true)]) (
            .prim (.fld 3) [.v 0] <|
            .call 31 [.v 17, .v 5] 1 <|
            .prim (.un .not) [.v 18] <|
            .jmp 0 false [.v 7, .v 8, .v 10, .v 13, .v 16, .v 19]))))) 6 <|
  .ite (.v 12) (
    .jmp 0 false [.c (.bool false)]) (
    .prim (.fld 0) [.v 0] <|
    .prim (.bin .eql) [.v 13, .c (.int .i64 1)] <|
    .ite (.v 14) (
      .jmp 0 false [.c (.bool true)]) (
      .prim (.un .not) [.v 6] <|
      .ite (.v 15) (
        .prim (.fld 4) [.v 0] <|
        .prim (.bin .eql) [.v 16, .c (.int .u32 0)] <|
        .jmp 0 false [.v 17]) (
        .sub (
          .prim (.bin .gtr) [.v 1, .c (.int .i64 0)] <|
          .ite (.v 16) (
            .prim (.fld 4) [.v 0] <|
            .prim (.conv .u64) [.v 17] <|
            .prim (.conv .u64) [.v 1] <|
            .prim (.bin .lss) [.v 18, .v 19] <|
            .jmp 0 false [.v 20, .v 16]) (
            .jmp 0 false [.c (.bool false), .v 16])) 2 <|
        .jmp 0 false [.v 16])))
theorem t22 : treeOf cx 12 22 = some T22 := by kernel_rfl

/- 23: backstay/backstayref02.May -/
def T23 : Tree :=
  .prim (.fld 0) [.v 0] <|
  .prim (.bin .eql) [.v 2, .c (.int .i64 1)] <|
  .ite (.v 3) (
    .sub (
      .prim (.fld 1) [.v 0] <|
      .call 32 [.v 4] 1 <|
      .ite (.v 5) (
        .prim (.fld 2) [.v 0] <|
        .prim (.bin .eql) [.v 6, .c (.int .i64 0)] <|
        .ite (.v 7) (
          .prim (.fld 3) [.v 0] <|
          .prim (.bin .eql) [.v 8, .c (.int .i64 0)] <|
          .jmp 0 false [.v 9, .v 4, .v 5, .v 7]) (
          .jmp 0 false [.c (.bool false), .v 4, .v 5, .v 7])) (
        .jmp 0 false [.c (.bool false), .v 4, .v 5, .c (.bool false)])) 4 <|
    .jmp 0 false [.v 4]) (
    .prim (.bin .eql) [.v 2, .c (.int .i64 2)] <|
    .sub (
      .ite (.v 4) (
        .jmp 0 false [.v 4]) (
        .prim (.bin .eql) [.v 2, .c (.int .i64 3)] <|
        .sub (
          .ite (.v 5) (
            .jmp 0 false [.v 5]) (
            .prim (.bin .eql) [.v 2, .c (.int .i64 4)] <|
            .sub (
              .ite (.v 6) (
                .jmp 0 false [.v 6]) (
                .prim (.bin .eql) [.v 2, .c (.int .i64 5)] <|
                .sub (
                  .ite (.v 7) (
                    .jmp 0 false [.v 7]) (
                    .prim (.bin .eql) [.v 2, .c (.int .i64 6)] <|
                    .sub (
                      .ite (.v 8) (
                        .jmp 0 false [.v 8]) (
                        .prim (.bin .eql) [.v 2, .c (.int .i64 7)] <|
                        .sub (
                          .ite (.v 9) (
                            .jmp 0 false [.v 9]) (
                            .prim (.bin .eql) [.v 2, .c (.int .i64 8)] <|
                            .sub (
                              .ite (.v 10) (
                                .jmp 0 false [.v 10]) (
                                .prim (.bin .eql) [.v 2, .c (.int .i64 11)] <|
                                .jmp 0 false [.v 11])) 1 <|
                            .jmp 0 false [.v 11])) 1 <|
                        .jmp 0 false [.v 10])) 1 <|
                    .jmp 0 false [.v 9])) 1 <|
                .jmp 0 false [.v 8])) 1 <|
            .jmp 0 false [.v 7])) 1 <|
        .jmp 0 false [.v 6])) 1 <|
    .ite (.v 5) (
      .sub (
        .prim (.fld 1) [.v 0] <|
        .call 32 [.v 6] 1 <|
        .ite (.v 7) (
          .prim (.fld 2) [.v 0] <|
          .call 32 [.v 8] 1 <|
          .ite (.v 9) (
            .prim (.fld 3) [.v 0] <|
            .call 32 [.v 10] 1 <|
            .ite (.v 11) (
              .prim (.fld 4) [.v 0] <|
              .prim (.bin .eql) [.v 12, .c (.int .u32 0)] <|
              .jmp 0 false [.v 13, .v 6, .v 7, .v 9, .v 11]) (
              .jmp 0 false [.c (.bool false), .v 6, .v 7, .v 9, .v 11])) (
            .jmp 0 false [.c (.bool false), .v 6, .v 7, .v 9, .c (.bool false)])) (
          .jmp 0 false [.c (.bool false), .v 6, .v 7, .c (.bool false), .c (.bool false)])) 5 <|
      .jmp 0 false [.v 6]) (
      .prim (.bin .eql) [.v 2, .c (.int .i64 9)] <|
      .sub (
        .ite (.v 6) (
          .jmp 0 false [.v 6]) (
          .prim (.bin .eql) [.v 2, .c (.int .i64 10)] <|
          .jmp 0 false [.v 7])) 1 <|
      .ite (.v 7) (
        .sub (
          .prim (.fld 1) [.v 0] <|
          .call 32 [.v 8] 1 <|
          .ite (.v 9) (
            .prim (.fld 2) [.v 0] <|
            .call 32 [.v 10] 1 <|
            .ite (.v 11) (
              .prim (.fld 3) [.v 0] <|
              .prim (.bin .eql) [.v 12, .c (.int .i64 0)] <|
              .ite (.v 13) (
                .prim (.fld 4) [.v 0] <|
                .prim (.bin .eql) [.v 14, .c (.int .u32 0)] <|
                .jmp 0 false [.v 15, .v 8, .v 9, .v 11, .v 13]) (
                .jmp 0 false [.c (.bool false), .v 8, .v 9, .v 11, .v 13])) (
              .jmp 0 false [.c (.bool false), .v 8, .v 9, .v 11, .c (.bool false)])) (
            .jmp 0 false [.c (.bool false), .v 8, .v 9, .c (.bool false), .c (.bool false)])) 5 <|
        .jmp 0 false [.v 8]) (
        .prim (.bin .eql) [.v 2, .c (.int .i64 12)] <|
        .sub (
          .ite (.v 8) (
            .jmp 0 false [.v 8]) (
            .prim (.bin .eql) [.v 2, .c (.int .i64 16)] <|
            .jmp 0 false [.v 9])) 1 <|
        .ite (.v 9) (
          .sub (
            .prim (.fld 1) [.v 0] <|
            .prim (.bin .eql) [.v 10, .c (.int .i64 0)] <|
            .ite (.v 11) (
              .prim (.fld 2) [.v 0] <|
              .prim (.bin .eql) [.v 12, .c (.int .i64 0)] <|
              .ite (.v 13) (
                .prim (.fld 3) [.v 0] <|
                .prim (.bin .eql) [.v 14, .c (.int .i64 0)] <|
                .ite (.v 15) (
                  .prim (.fld 4) [.v 0] <|
                  .prim (.bin .eql) [.v 16, .c (.int .u32 0)] <|
                  .jmp 0 false [.v 17, .v 10, .v 11, .v 13, .v 15]) (
                  .jmp 0 false [.c (.bool false), .v 10, .v 11, .v 13, .v 15])) (
                .jmp 0 false [.c (.bool false), .v 10, .v 11, .v 13, .c (.bool false)])) (
              .jmp 0 false [.c (.bool false), .v 10, .v 11, .c (.bool false), .c (.bool false)])) 5 <|
          .jmp 0 false [.v 10]) (
          .prim (.bin .eql) [.v 2, .c (.int .i64 13)] <|
          .ite (.v 10) (
            .sub (
              .prim (.fld 1) [.v 0] <|
              .prim (.bin .eql) [.v 11, .c (.int .i64 0)] <|
              .ite (.v 12) (
                .prim (.fld 2) [.v 0] <|
                .prim (.bin .eql) [.v 13, .c (.int .i64 0)] <|
                .ite (.v 14) (
                  .prim (.fld 3) [.v 0] <|
                  .prim (.bin .eql) [.v 15, .c (.int .i64 0)] <|
                  .ite (.v 16) (
                    .prim (.fld 4) [.v 0] <|
                    .call 33 [.v 17, .v 1] 1 <|
                    .jmp 0 false [.v 18, .v 11, .v 12, .v 14, .v 16]) (
                    .jmp 0 false [.c (.bool false), .v 11, .v 12, .v 14, .v 16])) (
                  .jmp 0 false [.c (.bool false), .v 11, .v 12, .v 14, .c (.bool false)])) (
                .jmp 0 false [.c (.bool false), .v 11, .v 12, .c (.bool false), .c (.bool false)])) 5 <|
            .jmp 0 false [.v 11]) (
            .prim (.bin .eql) [.v 2, .c (.int .i64 14)] <|
            .ite (.v 11) (
              .sub (
                .prim (.fld 1) [.v 0] <|
                .call 32 [.v 12] 1 <|
                .ite (.v 13) (
                  .prim (.fld 2) [.v 0] <|
                  .prim (.bin .eql) [.v 14, .c (.int .i64 0)] <|
                  .ite (.v 15) (
                    .prim (.fld 3) [.v 0] <|
                    .prim (.bin .eql) [.v 16, .c (.int .i64 0)] <|
                    .ite (.v 17) (
                      .prim (.fld 4) [.v 0] <|
                      .call 33 [.v 18, .v 1] 1 <|
                      .jmp 0 false [.v 19, .v 12, .v 13, .v 15, .v 17]) (
                      .jmp 0 false [.c (.bool false), .v 12, .v 13, .v 15, .v 17])) (
                    .jmp 0 false [.c (.bool false), .v 12, .v 13, .v 15, .c (.bool false)])) (
                  .jmp 0 false [.c (.bool false), .v 12, .v 13, .c (.bool false), .c (.bool false)])) 5 <|
              .jmp 0 false [.v 12]) (
              .prim (.bin .eql) [.v 2, .c (.int .i64 15)] <|
              .ite (.v 12) (
                .sub (
                  .prim (.fld 1) [.v 0] <|
                  .call 32 [.v 13] 1 <|
                  .ite (.v 14) (
                    .prim (.fld 2) [.v 0] <|
                    .prim (.bin .eql) [.v 15, .c (.int .i64 0)] <|
                    .ite (.v 16) (
                      .prim (.fld 3) [.v 0] <|
                      .prim (.bin .eql) [.v 17, .c (.int .i64 0)] <|
                      .ite (.v 18) (
                        .prim (.fld 4) [.v 0] <|
                        .prim (.bin .eql) [.v 19, .c (.int .u32 0)] <|
                        .jmp 0 false [.v 20, .v 13, .v 14, .v 16, .v 18]) (
                        .jmp 0 false [.c (.bool false), .v 13, .v 14, .v 16, .v 18])) (
                      .jmp 0 false [.c (.bool false), .v 13, .v 14, .v 16, .c (.bool false)])) (
                    .jmp 0 false [.c (.bool false), .v 13, .v 14, .c (.bool false), .c (.bool false)])) 5 <|
                .jmp 0 false [.v 13]) (
                .jmp 0 false [.c (.bool false)])))))))
theorem t23 : treeOf cx 12 23 = some T23 := by kernel_rfl

/- 24: backstay/isa.All -/
def T24L1 : Tree :=
  .prim (.bin .lss) [.v 5, .v 4] <|
  .ite (.v 6) (
    .prim .get [.v 0, .v 5] <|
    .call 35 [.v 7] 1 <|
    .ite (.v 8) (
      .jmp 2 false [.v 5]) (
      .prim (.bin .add) [.v 5, .c (.int .i64 1)] <|
      .jmp 0 true [.v 9])) (
    .jmp 1 false [.v 5, .v 6])
def T24 : Tree :=
  .sub (
    .prim .len [.v 0] <|
    .prim (.bin .geq) [.v 1, .c (.int .i64 1)] <|
    .ite (.v 2) (
      .prim .len [.v 0] <|
      .prim (.bin .leq) [.v 3, .c (.int .i64 4)] <|
      .jmp 0 false [.v 4, .v 1, .v 2]) (
      .jmp 0 false [.c (.bool false), .v 1, .v 2])) 3 <|
  .sub (
    .ite (.v 1) (
      .sub (
        .sub (
          .prim .len [.v 0] <|
          .sub (
            .loop [.c (.int .i64 0)] T24L1) 2 <|
          .jmp 0 false [.c (.int .i64 (-1))]) 1 <|
        .prim (.bin .geq) [.v 4, .c (.int .i64 0)] <|
        .jmp 0 false [.v 5]) 1 <|
      .prim (.un .not) [.v 4] <|
      .jmp 0 false [.v 5]) (
      .jmp 0 false [.c (.bool false)])) 1 <|
  .jmp 0 false [.v 4]
theorem t24 : treeOf cx 12 24 = some T24 := by kernel_rfl

/- 25: backstay/backstayref02.All -/
def T25L1 : Tree :=
  .prim .len [.v 0] <|
  .prim (.bin .lss) [.v 1, .v 2] <|
  .ite (.v 3) (
    .sub (
      .prim (.bin .gtr) [.v 1, .c (.int .i64 3)] <|
      .ite (.v 4) (
        .jmp 0 false [.v 4, .c (.bool true)]) (
        .prim .get [.v 0, .v 1] <|
        .call 21 [.v 5] 1 <|
        .prim (.un .not) [.v 6] <|
        .jmp 0 false [.v 4, .v 7])) 2 <|
    .ite (.v 5) (
      .jmp 2 false [.c (.bool false)]) (
      .prim (.bin .add) [.v 1, .c (.int .i64 1)] <|
      .jmp 0 true [.v 6])) (
    .jmp 1 false [.v 1, .v 2, .v 3])
def T25 : Tree :=
  .sub (
    .loop [.c (.int .i64 0)] T25L1) 3 <|
  .prim .len [.v 0] <|
  .prim (.bin .gtr) [.v 4, .c (.int .i64 0)] <|
  .jmp 0 false [.v 5]
theorem t25 : treeOf cx 12 25 = some T25 := by kernel_rfl

/- 26: backstay/isa.Uses -/
def T26 : Tree :=
  .call 36 [.v 0] 1 <|
  .prim (.bin .and) [.v 1, .c (.int .i64 1)] <|
  .prim (.bin .neq) [.v 2, .c (.int .i64 0)] <|
  .prim (.bin .and) [.v 1, .c (.int .i64 2)] <|
  .prim (.bin .neq) [.v 4, .c (.int .i64 0)] <|
  .prim (.bin .and) [.v 1, .c (.int .i64 4)] <|
  .prim (.bin .neq) [.v 6, .c (.int .i64 0)] <|
  .prim (.bin .and) [.v 1, .c (.int .i64 8)] <|
  .prim (.bin .neq) [.v 8, .c (.int .i64 0)] <|
  .jmp 0 false [.v 3, .v 5, .v 7, .v 9]
theorem t26 : treeOf cx 12 26 = some T26 := by kernel_rfl

/- 27: backstay/word.truth -/
def T27 : Tree :=
  .ite (.v 0) (
    .jmp 0 false [.c (.int .u32 1)]) (
    .jmp 0 false [.c (.int .u32 0)])
theorem t27 : treeOf cx 12 27 = some T27 := by kernel_rfl

/- 28: backstay/backstayref01.bits -/
def T28L1 : Tree :=
  .prim (.bin .lss) [.v 7, .c (.int .i64 32)] <|
  .ite (.v 8) (
    .prim (.bin .rem) [.v 3, .c (.int .u32 2)] <|
    .prim (.bin .eql) [.v 9, .c (.int .u32 1)] <|
    .prim (.bin .rem) [.v 4, .c (.int .u32 2)] <|
    .prim (.bin .eql) [.v 11, .c (.int .u32 1)] <|
    .sub (
      .ite (.v 2) (
        .ite (.v 10) (
          .ite (.v 12) (
            .jmp 0 false [.v 10, .v 12, .c (.bool true)]) (
            .prim (.un .not) [.v 2] <|
            .ite (.v 13) (
              .prim (.bin .neq) [.v 10, .v 12] <|
              .jmp 0 false [.v 10, .v 12, .v 14]) (
              .jmp 0 false [.v 10, .v 12, .c (.bool false)]))) (
          .prim (.un .not) [.v 2] <|
          .ite (.v 13) (
            .prim (.bin .neq) [.v 10, .v 12] <|
            .jmp 0 false [.v 10, .c (.bool false), .v 14]) (
            .jmp 0 false [.v 10, .c (.bool false), .c (.bool false)]))) (
        .prim (.un .not) [.v 2] <|
        .ite (.v 13) (
          .prim (.bin .neq) [.v 10, .v 12] <|
          .jmp 0 false [.c (.bool false), .c (.bool false), .v 14]) (
          .jmp 0 false [.c (.bool false), .c (.bool false), .c (.bool false)]))) 3 <|
    .sub (
      .ite (.v 15) (
        .prim (.bin .add) [.v 5, .v 6] <|
        .jmp 0 false [.v 16]) (
        .jmp 0 false [.v 5])) 1 <|
    .prim (.bin .quo) [.v 3, .c (.int .u32 2)] <|
    .prim (.bin .quo) [.v 4, .c (.int .u32 2)] <|
    .prim (.bin .mul) [.v 6, .c (.int .u32 2)] <|
    .prim (.bin .add) [.v 7, .c (.int .i64 1)] <|
    .jmp 0 true [.v 17, .v 18, .v 16, .v 19, .v 20]) (
    .jmp 1 false [.v 3, .v 4, .v 5, .v 6, .v 7, .v 8])
def T28 : Tree :=
  .sub (
    .loop [.v 0, .v 1, .c (.int .u32 0), .c (.int .u32 1), .c (.int .i64 0)] T28L1) 6 <|
  .jmp 0 false [.v 5]
theorem t28 : treeOf cx 12 28 = some T28 := by kernel_rfl

/- 31: backstay/isa.register -/
def T31 : Tree :=
  .prim (.un .not) [.v 1] <|
  .ite (.v 2) (
    .prim (.bin .eql) [.v 0, .c (.int .i64 0)] <|
    .jmp 0 false [.v 3]) (
    .sub (
      .prim (.bin .geq) [.v 0, .c (.int .i64 0)] <|
      .ite (.v 3) (
        .prim (.bin .lss) [.v 0, .c (.int .i64 8)] <|
        .jmp 0 false [.v 4, .v 3]) (
        .jmp 0 false [.c (.bool false), .v 3])) 2 <|
    .jmp 0 false [.v 3])
theorem t31 : treeOf cx 12 31 = some T31 := by kernel_rfl

/- 32: backstay/backstayref02.reg -/
def T32 : Tree :=
  .sub (
    .prim (.bin .geq) [.v 0, .c (.int .i64 0)] <|
    .ite (.v 1) (
      .prim (.bin .lss) [.v 0, .c (.int .i64 8)] <|
      .jmp 0 false [.v 2, .v 1]) (
      .jmp 0 false [.c (.bool false), .v 1])) 2 <|
  .jmp 0 false [.v 1]
theorem t32 : treeOf cx 12 32 = some T32 := by kernel_rfl

/- 33: backstay/backstayref02.goal -/
def T33 : Tree :=
  .sub (
    .prim (.bin .gtr) [.v 1, .c (.int .i64 0)] <|
    .ite (.v 2) (
      .prim (.conv .i64) [.v 0] <|
      .prim (.bin .lss) [.v 3, .v 1] <|
      .jmp 0 false [.v 4, .v 2]) (
      .jmp 0 false [.c (.bool false), .v 2])) 2 <|
  .jmp 0 false [.v 2]
theorem t33 : treeOf cx 12 33 = some T33 := by kernel_rfl

/- 35: backstay/isa.All$1 -/
def T35 : Tree :=
  .call 20 [.v 0] 1 <|
  .prim (.un .not) [.v 1] <|
  .jmp 0 false [.v 2]
theorem t35 : treeOf cx 12 35 = some T35 := by kernel_rfl

/- 36: backstay/isa.uses -/
def T36 : Tree :=
  .prim (.bin .eql) [.v 0, .c (.int .i64 1)] <|
  .sub (
    .ite (.v 1) (
      .jmp 0 false [.v 1]) (
      .prim (.bin .eql) [.v 0, .c (.int .i64 14)] <|
      .jmp 0 false [.v 2])) 1 <|
  .ite (.v 2) (
    .jmp 0 false [.c (.int .i64 9)]) (
    .prim (.bin .eql) [.v 0, .c (.int .i64 2)] <|
    .sub (
      .ite (.v 3) (
        .jmp 0 false [.v 3]) (
        .prim (.bin .eql) [.v 0, .c (.int .i64 3)] <|
        .sub (
          .ite (.v 4) (
            .jmp 0 false [.v 4]) (
            .prim (.bin .eql) [.v 0, .c (.int .i64 4)] <|
            .sub (
              .ite (.v 5) (
                .jmp 0 false [.v 5]) (
                .prim (.bin .eql) [.v 0, .c (.int .i64 5)] <|
                .sub (
                  .ite (.v 6) (
                    .jmp 0 false [.v 6]) (
                    .prim (.bin .eql) [.v 0, .c (.int .i64 6)] <|
                    .sub (
                      .ite (.v 7) (
                        .jmp 0 false [.v 7]) (
                        .prim (.bin .eql) [.v 0, .c (.int .i64 7)] <|
                        .sub (
                          .ite (.v 8) (
                            .jmp 0 false [.v 8]) (
                            .prim (.bin .eql) [.v 0, .c (.int .i64 8)] <|
                            .sub (
                              .ite (.v 9) (
                                .jmp 0 false [.v 9]) (
                                .prim (.bin .eql) [.v 0, .c (.int .i64 11)] <|
                                .jmp 0 false [.v 10])) 1 <|
                            .jmp 0 false [.v 10])) 1 <|
                        .jmp 0 false [.v 9])) 1 <|
                    .jmp 0 false [.v 8])) 1 <|
                .jmp 0 false [.v 7])) 1 <|
            .jmp 0 false [.v 6])) 1 <|
        .jmp 0 false [.v 5])) 1 <|
    .ite (.v 4) (
      .jmp 0 false [.c (.int .i64 7)]) (
      .prim (.bin .eql) [.v 0, .c (.int .i64 9)] <|
      .sub (
        .ite (.v 5) (
          .jmp 0 false [.v 5]) (
          .prim (.bin .eql) [.v 0, .c (.int .i64 10)] <|
          .jmp 0 false [.v 6])) 1 <|
      .ite (.v 6) (
        .jmp 0 false [.c (.int .i64 3)]) (
        .prim (.bin .eql) [.v 0, .c (.int .i64 13)] <|
        .ite (.v 7) (
          .jmp 0 false [.c (.int .i64 8)]) (
          .prim (.bin .eql) [.v 0, .c (.int .i64 15)] <|
          .ite (.v 8) (
            .jmp 0 false [.c (.int .i64 1)]) (
            .jmp 0 false [.c (.int .i64 0)])))))
theorem t36 : treeOf cx 12 36 = some T36 := by kernel_rfl

end Go.Proofs.Ytkgflipalefmfaa
