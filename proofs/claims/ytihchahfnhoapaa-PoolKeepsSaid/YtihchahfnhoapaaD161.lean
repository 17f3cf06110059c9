/- The types of this cut, and its functions as functions of plain typed data. Printed by a program of this claim's prover; each is checked here to be what the executor makes of the code. -/
import Derived.Test.YtihchahfnhoapaaProg
import Derived.Test.YtihchahfnhoapaaLim
import Derived.KernelRfl
set_option linter.unusedVariables false
set_option maxRecDepth 100000
namespace Go.Proofs.Ytihchahfnhoapaa
open Go.SX
abbrev tsIns : List Ty := [.int .i64, .int .i64, .int .i64, .int .i64, .int .u32]
abbrev tIns : Ty := .st tsIns
abbrev Ins : Type := Int × Int × Int × Int × Int

abbrev tsDeed : List Ty := [.int .i64, .int .i64, .int .i64, .int .u32, .int .u32]
abbrev tDeed : Ty := .st tsDeed
abbrev Deed : Type := Int × Int × Int × Int × Int

abbrev tsMsg : List Ty := [.int .i64, .int .i64, .int .i64, .int .i64, .int .i64, .int .i64, .bool, .int .u32, .int .u32]
abbrev tMsg : Ty := .st tsMsg
abbrev Msg : Type := Int × Int × Int × Int × Int × Int × Bool × Int × Int
def Msg.mk (Kind : Int) (From : Int) (To : Int) (Line : Int) (For : Int) (Acks : Int) (Own : Bool) (Num : Int) (Val : Int) : Msg := (Kind, From, To, Line, For, Acks, Own, Num, Val)
def Msg.Kind (x : Msg) : Int := x.1
def Msg.From (x : Msg) : Int := x.2.1
def Msg.To (x : Msg) : Int := x.2.2.1
def Msg.Line (x : Msg) : Int := x.2.2.2.1
def Msg.For (x : Msg) : Int := x.2.2.2.2.1
def Msg.Acks (x : Msg) : Int := x.2.2.2.2.2.1
def Msg.Own (x : Msg) : Bool := x.2.2.2.2.2.2.1
def Msg.Num (x : Msg) : Int := x.2.2.2.2.2.2.2.1
def Msg.Val (x : Msg) : Int := x.2.2.2.2.2.2.2.2
@[simp] theorem Msg.Kind_mk (Kind : Int) (From : Int) (To : Int) (Line : Int) (For : Int) (Acks : Int) (Own : Bool) (Num : Int) (Val : Int) : Msg.Kind (Msg.mk Kind From To Line For Acks Own Num Val) = Kind := rfl
@[simp] theorem Msg.From_mk (Kind : Int) (From : Int) (To : Int) (Line : Int) (For : Int) (Acks : Int) (Own : Bool) (Num : Int) (Val : Int) : Msg.From (Msg.mk Kind From To Line For Acks Own Num Val) = From := rfl
@[simp] theorem Msg.To_mk (Kind : Int) (From : Int) (To : Int) (Line : Int) (For : Int) (Acks : Int) (Own : Bool) (Num : Int) (Val : Int) : Msg.To (Msg.mk Kind From To Line For Acks Own Num Val) = To := rfl
@[simp] theorem Msg.Line_mk (Kind : Int) (From : Int) (To : Int) (Line : Int) (For : Int) (Acks : Int) (Own : Bool) (Num : Int) (Val : Int) : Msg.Line (Msg.mk Kind From To Line For Acks Own Num Val) = Line := rfl
@[simp] theorem Msg.For_mk (Kind : Int) (From : Int) (To : Int) (Line : Int) (For : Int) (Acks : Int) (Own : Bool) (Num : Int) (Val : Int) : Msg.For (Msg.mk Kind From To Line For Acks Own Num Val) = For := rfl
@[simp] theorem Msg.Acks_mk (Kind : Int) (From : Int) (To : Int) (Line : Int) (For : Int) (Acks : Int) (Own : Bool) (Num : Int) (Val : Int) : Msg.Acks (Msg.mk Kind From To Line For Acks Own Num Val) = Acks := rfl
@[simp] theorem Msg.Own_mk (Kind : Int) (From : Int) (To : Int) (Line : Int) (For : Int) (Acks : Int) (Own : Bool) (Num : Int) (Val : Int) : Msg.Own (Msg.mk Kind From To Line For Acks Own Num Val) = Own := rfl
@[simp] theorem Msg.Num_mk (Kind : Int) (From : Int) (To : Int) (Line : Int) (For : Int) (Acks : Int) (Own : Bool) (Num : Int) (Val : Int) : Msg.Num (Msg.mk Kind From To Line For Acks Own Num Val) = Num := rfl
@[simp] theorem Msg.Val_mk (Kind : Int) (From : Int) (To : Int) (Line : Int) (For : Int) (Acks : Int) (Own : Bool) (Num : Int) (Val : Int) : Msg.Val (Msg.mk Kind From To Line For Acks Own Num Val) = Val := rfl
@[simp] theorem Msg.eta (x : Msg) : Msg.mk (Msg.Kind x) (Msg.From x) (Msg.To x) (Msg.Line x) (Msg.For x) (Msg.Acks x) (Msg.Own x) (Msg.Num x) (Msg.Val x) = x := rfl

abbrev tsWant : List Ty := [.int .i64, .int .i64, .int .u32, .int .u32]
abbrev tWant : Ty := .st tsWant
abbrev Want : Type := Int × Int × Int × Int

abbrev tsWait : List Ty := [.int .i64, .bool, .bool, .bool, .bool, .bool, .int .i64, .int .i64, .int .u32]
abbrev tWait : Ty := .st tsWait
abbrev Wait : Type := Int × Bool × Bool × Bool × Bool × Bool × Int × Int × Int

abbrev tsruntime_boundsError : List Ty := [.int .i64, .int .i64, .bool, .int .u8]
abbrev truntime_boundsError : Ty := .st tsruntime_boundsError
abbrev runtime_boundsError : Type := Int × Int × Bool × Int

abbrev tsTold : List Ty := [.int .i64, .int .u32]
abbrev tTold : Ty := .st tsTold
abbrev Told : Type := Int × Int

abbrev tsruntime_errorAddressString : List Ty := [.str, .int .u64]
abbrev truntime_errorAddressString : Ty := .st tsruntime_errorAddressString
abbrev runtime_errorAddressString : Type := (List Int) × Int

abbrev tsl06_Do : List Ty := [.int .u8, tMsg, .int .u8, .int .u8]
abbrev tl06_Do : Ty := .st tsl06_Do
abbrev l06_Do : Type := Int × Ytihchahfnhoapaa.Msg × Int × Int
def l06_Do.mk (Kind : Int) (Msg : Ytihchahfnhoapaa.Msg) (At : Int) (Bit : Int) : l06_Do := (Kind, Msg, At, Bit)
def l06_Do.Kind (x : l06_Do) : Int := x.1
def l06_Do.Msg (x : l06_Do) : Ytihchahfnhoapaa.Msg := x.2.1
def l06_Do.At (x : l06_Do) : Int := x.2.2.1
def l06_Do.Bit (x : l06_Do) : Int := x.2.2.2
@[simp] theorem l06_Do.Kind_mk (Kind : Int) (Msg : Ytihchahfnhoapaa.Msg) (At : Int) (Bit : Int) : l06_Do.Kind (l06_Do.mk Kind Msg At Bit) = Kind := rfl
@[simp] theorem l06_Do.Msg_mk (Kind : Int) (Msg : Ytihchahfnhoapaa.Msg) (At : Int) (Bit : Int) : l06_Do.Msg (l06_Do.mk Kind Msg At Bit) = Msg := rfl
@[simp] theorem l06_Do.At_mk (Kind : Int) (Msg : Ytihchahfnhoapaa.Msg) (At : Int) (Bit : Int) : l06_Do.At (l06_Do.mk Kind Msg At Bit) = At := rfl
@[simp] theorem l06_Do.Bit_mk (Kind : Int) (Msg : Ytihchahfnhoapaa.Msg) (At : Int) (Bit : Int) : l06_Do.Bit (l06_Do.mk Kind Msg At Bit) = Bit := rfl
@[simp] theorem l06_Do.eta (x : l06_Do) : l06_Do.mk (l06_Do.Kind x) (l06_Do.Msg x) (l06_Do.At x) (l06_Do.Bit x) = x := rfl

abbrev tsEntry : List Ty := [.int .i64, .sl .bool]
abbrev tEntry : Ty := .st tsEntry
abbrev Entry : Type := Int × (List Bool)

abbrev tsCore : List Ty := [.arr 8 (.int .u32), .int .i64, .bool]
abbrev tCore : Ty := .st tsCore
abbrev Core : Type := (List Int) × Int × Bool

abbrev tsPool : List Ty := [.sl (.sl (.int .u8))]
abbrev tPool : Ty := .st tsPool
abbrev Pool : Type := List (List Int)
def Pool.mk (Frames : List (List Int)) : Pool := Frames
def Pool.Frames (x : Pool) : List (List Int) := x
@[simp] theorem Pool.Frames_mk (Frames : List (List Int)) : Pool.Frames (Pool.mk Frames) = Frames := rfl
@[simp] theorem Pool.eta (x : Pool) : Pool.mk (Pool.Frames x) = x := rfl

abbrev tsAtom : List Ty := [.sl (.int .u32), .sl tCore, .sl tTold]
abbrev tAtom : Ty := .st tsAtom
abbrev Atom : Type := (List Int) × (List Ytihchahfnhoapaa.Core) × (List Ytihchahfnhoapaa.Told)

abbrev tsProto : List Ty := [.sl (.sl (.int .i64)), .sl (.sl (.int .u32)), .sl tWait, .sl (.int .u32), .sl tEntry, .sl (.int .i64), tPool]
abbrev tProto : Ty := .st tsProto
abbrev Proto : Type := (List (List Int)) × (List (List Int)) × (List Ytihchahfnhoapaa.Wait) × (List Int) × (List Ytihchahfnhoapaa.Entry) × (List Int) × Ytihchahfnhoapaa.Pool

def tys : List Ty := [.no, .no, .int .i64, .int .i64, .bool, .int .u8, .int .u8, truntime_boundsError, truntime_boundsError, .str, .str, .str, .int .u64, truntime_errorAddressString, truntime_errorAddressString, .no, .no, .no, .no, .no, .no, .int .i32, .sl (.sl (.int .i64)), .sl (.sl (.int .u32)), .sl tWait, .sl (.int .u32), .sl tEntry, .sl (.int .i64), .sl (.sl (.int .u8)), tPool, tPool, tProto, tProto, .no, .no, .no, .no, .no, .int .u32, .int .i64, .no, .no, .sl tMsg, .no, .no, tMsg, tMsg, .no, .no, .no, .no, .sl (.sl tIns), .no, .sl tCore, .sl tTold, tAtom, tAtom, .no, .no, .no, .no, .no, .no, .no, .no, .no, .sl (.int .u8), .no, .no, .no, .no, .no, .no, .no, .no, .no, .no, .sl tl06_Do, .sl (.arr 19 (.int .u8)), tl06_Do, tl06_Do, .no, .arr 19 (.int .u8), .int .u64, .no, .no, .no, .no, .no, .arr 8 (.int .u32), tCore, tCore, .no, tWant, tWant, .no, .sl tIns, .no, .no, .no, .no, .no, .no, .sl tDeed, tDeed, tDeed, .no, .no, .no, .no, .no, .no, .no, .no, .sl .bool, tEntry, tEntry, .no, .no, .no, .no, .no, tWait, tWait, .no, .no, .no, .no, .no, .no, .no, tIns, tIns, tTold, tTold, .no, .no, .no, .no, .no, .no, .no, .no, .no, .no, .no, .no, .no, .no, .no, .arr 5 (.int .i64), .no, .no, .no, .no, .no, .no, .no, .no, .no, .no, .no, .no, .no, .no, .no, .no, .no, .no, .no, .no, .no, .no, .no, .no, .no, .no, .no, .no, .no, .no, .no, .no, .no, .no, .int .u64, .no, .no, .no, .no, .no, .no, .no, .arr 4 (.int .u8), .no, .no, .no, .no, .no, .sl (.sl tDeed), .no, .no, .no, .no, .no, .no, .no, .no, .no, .no, .no, .no, .no, .no, .no, .no, .no, .no, .no, .no, .no, .int .u8, .int .u8, .no, .no, .int .i32, .int .i32, .no, .no, .no]
noncomputable def cx : Cx := { P := Try.prog, ty := tys, own := [], inl := [53, 85, 86, 100, 103, 107, 108, 113, 114, 128, 143, 144, 147, 149, 154, 163, 168], keepL := [], absL := [53, 84, 85, 95, 103, 113, 127], heads := [(8, [(3, 108789458167276984136793208773369311598704101364941664201268730744681981724236969934973, ⟨7, 0, mkSlots 287 0 [(0, .d (.sl tl06_Do) (.v 0)), (2, .d .bool (.c (.bool false))), (3, .p tPool tPool 0 []), (4, .h tMsg 1 none), (5, .h (.arr 19 (.int .u8)) 2 none), (6, .d (.int .i64) (.v 3))], [.box tPool (.d tPool (.v 4)), .row tMsg (.v 5), .row (.arr 19 (.int .u8)) (.v 6)]⟩),
    (21, 108789458167276984136793208773369311598704101364941664201268730744681981724236969998717, ⟨23, 0, mkSlots 287 0 [(0, .d (.sl tl06_Do) (.v 0)), (2, .d .bool (.c (.bool false))), (3, .p tPool tPool 0 []), (4, .h tMsg 1 none), (5, .h (.arr 19 (.int .u8)) 2 none), (6, .d (.int .i64) (.v 3)), (8, .d (.int .i64) (.v 11)), (11, .p tPool tPool 3 []), (12, .p tMsg tMsg 4 []), (13, .d (.int .i64) (.v 18)), (14, .d (.int .i64) (.v 21)), (15, .d (.int .i64) (.v 22))], [.box tPool (.d tPool (.v 4)), .row tMsg (.v 5), .row (.arr 19 (.int .u8)) (.v 6), .box tPool (.d tPool (.v 16)), .box tMsg (.d tMsg (.v 17))]⟩),
    (24, 108789458167276984136793208773369311598704101364941664201268730744681981724236970064253, ⟨26, 0, mkSlots 287 0 [(0, .d (.sl tl06_Do) (.v 0)), (2, .d .bool (.c (.bool false))), (3, .p tPool tPool 0 []), (4, .h tMsg 1 none), (5, .h (.arr 19 (.int .u8)) 2 none), (6, .d (.int .i64) (.v 3)), (8, .d (.int .i64) (.v 11)), (11, .p tPool tPool 3 []), (12, .p tMsg tMsg 4 []), (13, .d (.int .i64) (.v 18)), (14, .d (.int .i64) (.v 24)), (15, .d (.int .i64) (.v 22)), (16, .d (.int .i64) (.v 25))], [.box tPool (.d tPool (.v 4)), .row tMsg (.v 5), .row (.arr 19 (.int .u8)) (.v 6), .box tPool (.d tPool (.v 16)), .box tMsg (.d tMsg (.v 17))]⟩)]),
  (130, [(2, 908, ⟨4, 0, mkSlots 31 0 [(2, .d (.int .u32) (.c (.int .u32 0))), (3, .d (.int .u32) (.v 2)), (7, .d (.sl (.int .u8)) (.v 0)), (8, .d (.int .i64) (.v 1)), (9, .d (.int .i64) (.v 3))], []⟩),
    (8, 131980, ⟨10, 0, mkSlots 31 0 [(2, .d (.int .u32) (.c (.int .u32 0))), (3, .d (.int .u32) (.v 8)), (7, .d (.sl (.int .u8)) (.v 0)), (8, .d (.int .i64) (.v 1)), (9, .d (.int .i64) (.v 3)), (17, .d (.int .i64) (.v 9))], []⟩)])] }
theorem tyOk : TysOk cx := chkTys_ok (by kernel_rfl)
theorem mixed : Try.prog.follows .mixedOrders = true := by kernel_rfl
def noC : FuncId → List D → Option (List D) := fun _ _ => none
theorem noC_ok : CallsOk cx noC := fun _ _ _ _ _ _ _ h => by cases h
theorem call_now {f : FuncId} {ds rs : List D} (k d : Nat) (h : callF cx k 12 noC d f ds = some rs) : callL cx 12 noC f ds = some rs := (callL_some cx 12 noC).2 ⟨k, d, h⟩

/-! 52: backstay/backstayref05.May -/
noncomputable def r05_May_L1 (x6 : List Int) (s : Int) : Option (Int ⊕ Unit ⊕ Bool) :=
  if decide (s < (5 : Int)) then
    (
      (idxO (5 : Int) s).bind fun v9 =>
      (getO x6 v9).bind fun v10 =>
      if decide (v10 < (0 : Int)) then
        some (true)
      else
        (idxO (5 : Int) s).bind fun v12 =>
        (getO x6 v12).bind fun v13 =>
        some ((decide ((255 : Int) < v13))) : Option Bool).bind fun v9 =>
    if v9 then
      some (Sum.inr (Sum.inr (false)))
    else
      some (Sum.inl (w64 (s + (1 : Int))))
  else
    some (Sum.inr (Sum.inl ()))
noncomputable def r05_May (p0 : Msg) : Option Bool :=
  let v6 : List Int := ([Msg.From p0, Msg.To p0, Msg.Line p0, Msg.For p0, Msg.Acks p0] : List Int)
  orExit (
    loopD (r05_May_L1 v6) (0 : Int) : Option (Unit ⊕ Bool)) fun v7 =>
  some (((decide ((0 : Int) < (Msg.Kind p0))) && (decide ((Msg.Kind p0) < (12 : Int)))))
noncomputable def F_r05_May : FnT := ⟨[tMsg], [.bool], fun x => r05_May x⟩
noncomputable def A_r05_May : TA :=
 .prim (.fld 1) [.v 0] <|
 .prim (.fld 2) [.v 0] <|
 .prim (.fld 3) [.v 0] <|
 .prim (.fld 4) [.v 0] <|
 .prim (.fld 5) [.v 0] <|
 .mkA 5 (.int .i64) [.v 1, .v 2, .v 3, .v 4, .v 5] <|
 .sub1 [] (
  .loop [.int .i64] [.c (.int .i64 0)] (
   .prim (.bin .lss) [.v 7, .c (.int .i64 5)] <|
   .ite (.v 8) (
    .sub0 [.bool] (
     .prim (.idxn 5) [.v 7] <|
     .prim .get [.v 6, .v 9] <|
     .prim (.bin .lss) [.v 10, .c (.int .i64 0)] <|
     .ite (.v 11) (
      .jmp 0 false [.c (.bool true)]) (
      .prim (.idxn 5) [.v 7] <|
      .prim .get [.v 6, .v 12] <|
      .prim (.bin .gtr) [.v 13, .c (.int .i64 255)] <|
      .jmp 0 false [.v 14])) 1 <|
    .ite (.v 9) (
     .jmp 2 false [.c (.bool false)]) (
     .prim (.bin .add) [.v 7, .c (.int .i64 1)] <|
     .jmp 0 true [.v 10])) (
    .jmp 1 false []))) 0 <|
 .subp [.bool] (
  .prim (.fld 0) [.v 0] <|
  .prim (.bin .gtr) [.v 7, .c (.int .i64 0)] <|
  .ite (.v 8) (
   .prim (.fld 0) [.v 0] <|
   .prim (.bin .lss) [.v 9, .c (.int .i64 12)] <|
   .jmp 0 false [.v 10]) (
   .jmp 0 false [.c (.bool false)])) 1 <|
 .jmp 0 false [.v 7]
theorem a_r05_May : treeOf cx 12 52 = some A_r05_May.erase := by kernel_rfl
theorem k_r05_May : FnOk cx 12 noC 52 F_r05_May := fn_ok (t := A_r05_May) a_r05_May (fun _ => rfl) (ok_of [] (by kernel_rfl) .nil) (fun x => by kernel_rfl)

/-! 102: backstay/pool.Right$1 -/
def pool_Right_1 (p0 : List Int) : Bool :=
  !decide ((List.length p0 : Int) = (19 : Int))
def F_pool_Right_1 : PnT := ⟨[.sl (.int .u8)], [.bool], fun x => pool_Right_1 x⟩
def A_pool_Right_1 : TA :=
 .prim .len [.v 0] <|
 .prim (.bin .neq) [.v 1, .c (.int .i64 19)] <|
 .jmp 0 false [.v 2]
theorem a_pool_Right_1 : treeOf cx 12 102 = some A_pool_Right_1.erase := by kernel_rfl
theorem k_pool_Right_1 : FnOk cx 12 noC 102 F_pool_Right_1.fn := pn_ok (t := A_pool_Right_1) a_pool_Right_1 (fun _ => rfl) (ok_of [] (by kernel_rfl) .nil) (fun x => by kernel_rfl)

/-! 129: backstay/word.Of -/
noncomputable def word_Of_L1 (x1 : List Int) (s : (Int × Int)) : Option ((Int × Int) ⊕ Int) :=
  if decide (s.2 < (4 : Int)) then
    (getO x1 s.2).bind fun v5 =>
    (shlO .u32 s.1 (8 : Int)).bind fun v6 =>
    some (Sum.inl (bOr .u32 v6 (wu32 v5), w64 (s.2 + (1 : Int))))
  else
    some (Sum.inr (s.1))
noncomputable def word_Of (p0 : List Int) : Option Int :=
  let v1 : List Int := cpyT ([(0 : Int), (0 : Int), (0 : Int), (0 : Int)] : List Int) p0
  (
    loopD (word_Of_L1 v1) ((0 : Int), (0 : Int)) : Option Int).bind fun v2 =>
  some (v2)
noncomputable def F_word_Of : FnT := ⟨[.sl (.int .u8)], [.int .u32], fun x => word_Of x⟩
noncomputable def A_word_Of : TA :=
 .primH .cpy (.arr 4 (.int .u8)) [.c (.agg [(.int .u8 0), (.int .u8 0), (.int .u8 0), (.int .u8 0)]), .v 0] <|
 .sub0 [.int .u32] (
  .loop [.int .u32, .int .i64] [.c (.int .u32 0), .c (.int .i64 0)] (
   .prim (.bin .lss) [.v 3, .c (.int .i64 4)] <|
   .ite (.v 4) (
    .prim .get [.v 1, .v 3] <|
    .prim (.bin .shl) [.v 2, .c (.int .u64 8)] <|
    .prim (.conv .u32) [.v 5] <|
    .prim (.bin .or) [.v 6, .v 7] <|
    .prim (.bin .add) [.v 3, .c (.int .i64 1)] <|
    .jmp 0 true [.v 8, .v 9]) (
    .jmp 1 false [.v 2]))) 1 <|
 .jmp 0 false [.v 2]
theorem a_word_Of : treeOf cx 12 129 = some A_word_Of.erase := by kernel_rfl
theorem k_word_Of : FnOk cx 12 noC 129 F_word_Of := fn_ok (t := A_word_Of) a_word_Of (fun _ => rfl) (ok_of [] (by kernel_rfl) .nil) (fun x => by kernel_rfl)

/-! 130: backstay/frame.Sum -/
noncomputable def frame_Sum_L1 (s : (Int × Int)) : Option ((Int × Int) ⊕ Int) :=
  if decide (s.2 < (8 : Int)) then
    (shrO .u32 s.1 (1 : Int)).bind fun v13 =>
    some (Sum.inl (bif decide ((bAnd .u32 s.1 (1 : Int)) = (1 : Int)) then bXor .u32 v13 (3988292384 : Int) else v13, w64 (s.2 + (1 : Int))))
  else
    some (Sum.inr (s.1))
noncomputable def frame_Sum_L2 (x0 : List Int) (x1 : Int) (s : (Int × Int)) : Option ((Int × Int) ⊕ Int) :=
  if decide (s.2 < x1) then
    (getO x0 s.2).bind fun v5 =>
    (
      loopD frame_Sum_L1 (bXor .u32 s.1 (wu32 v5), (0 : Int)) : Option Int).bind fun v8 =>
    some (Sum.inl (v8, w64 (s.2 + (1 : Int))))
  else
    some (Sum.inr (s.1))
noncomputable def frame_Sum (p0 : List Int) : Option Int :=
  let v1 : Int := (List.length p0 : Int)
  (
    loopD (frame_Sum_L2 p0 v1) ((4294967295 : Int), (0 : Int)) : Option Int).bind fun v2 =>
  some ((bNot .u32 v2))
noncomputable def F_frame_Sum : FnT := ⟨[.sl (.int .u8)], [.int .u32], fun x => frame_Sum x⟩
noncomputable def A_frame_Sum : TA :=
 .prim .len [.v 0] <|
 .sub0 [.int .u32] (
  .loop [.int .u32, .int .i64] [.c (.int .u32 4294967295), .c (.int .i64 0)] (
   .prim (.bin .lss) [.v 3, .v 1] <|
   .ite (.v 4) (
    .prim .get [.v 0, .v 3] <|
    .prim (.conv .u32) [.v 5] <|
    .prim (.bin .xor) [.v 2, .v 6] <|
    .sub0 [.int .u32] (
     .loop [.int .u32, .int .i64] [.v 7, .c (.int .i64 0)] (
      .prim (.bin .lss) [.v 9, .c (.int .i64 8)] <|
      .ite (.v 10) (
       .prim (.bin .and) [.v 8, .c (.int .u32 1)] <|
       .prim (.bin .eql) [.v 11, .c (.int .u32 1)] <|
       .prim (.bin .shr) [.v 8, .c (.int .u64 1)] <|
       .subp [.int .u32] (
        .ite (.v 12) (
         .prim (.bin .xor) [.v 13, .c (.int .u32 3988292384)] <|
         .jmp 0 false [.v 14]) (
         .jmp 0 false [.v 13])) 1 <|
       .prim (.bin .add) [.v 9, .c (.int .i64 1)] <|
       .jmp 0 true [.v 14, .v 15]) (
       .jmp 1 false [.v 8]))) 1 <|
    .prim (.bin .add) [.v 3, .c (.int .i64 1)] <|
    .jmp 0 true [.v 8, .v 9]) (
    .jmp 1 false [.v 2]))) 1 <|
 .prim (.un .xor) [.v 2] <|
 .jmp 0 false [.v 3]
theorem a_frame_Sum : treeOf cx 12 130 = some A_frame_Sum.erase := by kernel_rfl
theorem k_frame_Sum : FnOk cx 12 noC 130 F_frame_Sum := fn_ok (t := A_frame_Sum) a_frame_Sum (fun _ => rfl) (ok_of [] (by kernel_rfl) .nil) (fun x => by kernel_rfl)

/-! 131: bytes.Equal -/
noncomputable def bytes_Equal (p0 : List Int) (p1 : List Int) : Option Bool :=
  (b2sO p0).bind fun v2 =>
  (b2sO p1).bind fun v3 =>
  some ((decide (v2 = v3)))
noncomputable def F_bytes_Equal : FnT := ⟨[.sl (.int .u8), .sl (.int .u8)], [.bool], fun x => bytes_Equal x.1 x.2⟩
noncomputable def A_bytes_Equal : TA :=
 .prim .b2s [.v 0] <|
 .prim .b2s [.v 1] <|
 .prim (.bin .eql) [.v 2, .v 3] <|
 .jmp 0 false [.v 4]
theorem a_bytes_Equal : treeOf cx 12 131 = some A_bytes_Equal.erase := by kernel_rfl
theorem k_bytes_Equal : FnOk cx 12 noC 131 F_bytes_Equal := fn_ok (t := A_bytes_Equal) a_bytes_Equal (fun _ => rfl) (ok_of [] (by kernel_rfl) .nil) (fun x => by kernel_rfl)

/-! 153: backstay/frame.byteOf -/
def frame_byteOf (p0 : Int) : Bool :=
  (decide ((0 : Int) ≤ p0)) && (decide (p0 ≤ (255 : Int)))
def F_frame_byteOf : PnT := ⟨[.int .i64], [.bool], fun x => frame_byteOf x⟩
def A_frame_byteOf : TA :=
 .subp [.bool] (
  .prim (.bin .geq) [.v 0, .c (.int .i64 0)] <|
  .ite (.v 1) (
   .prim (.bin .leq) [.v 0, .c (.int .i64 255)] <|
   .jmp 0 false [.v 2]) (
   .jmp 0 false [.c (.bool false)])) 1 <|
 .jmp 0 false [.v 1]
theorem a_frame_byteOf : treeOf cx 12 153 = some A_frame_byteOf.erase := by kernel_rfl
theorem k_frame_byteOf : FnOk cx 12 noC 153 F_frame_byteOf.fn := pn_ok (t := A_frame_byteOf) a_frame_byteOf (fun _ => rfl) (ok_of [] (by kernel_rfl) .nil) (fun x => by kernel_rfl)

/-! 155: backstay/word.Bytes -/
noncomputable def word_Bytes (p0 : Int) : Option (List Int) :=
  (shrO .u32 p0 (24 : Int)).bind fun v1 =>
  (shrO .u32 p0 (16 : Int)).bind fun v3 =>
  (shrO .u32 p0 (8 : Int)).bind fun v5 =>
  some (([wu8 v1, wu8 v3, wu8 v5, wu8 p0] : List Int))
noncomputable def F_word_Bytes : FnT := ⟨[.int .u32], [.sl (.int .u8)], fun x => word_Bytes x⟩
noncomputable def A_word_Bytes : TA :=
 .prim (.bin .shr) [.v 0, .c (.int .u64 24)] <|
 .prim (.conv .u8) [.v 1] <|
 .prim (.bin .shr) [.v 0, .c (.int .u64 16)] <|
 .prim (.conv .u8) [.v 3] <|
 .prim (.bin .shr) [.v 0, .c (.int .u64 8)] <|
 .prim (.conv .u8) [.v 5] <|
 .prim (.conv .u8) [.v 0] <|
 .mkL (.int .u8) [.v 2, .v 4, .v 6, .v 7] <|
 .jmp 0 false [.v 8]
theorem a_word_Bytes : treeOf cx 12 155 = some A_word_Bytes.erase := by kernel_rfl
theorem k_word_Bytes : FnOk cx 12 noC 155 F_word_Bytes := fn_ok (t := A_word_Bytes) a_word_Bytes (fun _ => rfl) (ok_of [] (by kernel_rfl) .nil) (fun x => by kernel_rfl)

/-! 51: backstay/pool.Right -/
noncomputable def pool_Right_L1 (x4 : List (List Int)) (x5 : Int) (s : Int) : Option (Int ⊕ Unit ⊕ Int) :=
  if decide (s < x5) then
    (getO x4 s).bind fun v8 =>
    if pool_Right_1 v8 then
      some (Sum.inr (Sum.inr (s)))
    else
      some (Sum.inl (w64 (s + (1 : Int))))
  else
    some (Sum.inr (Sum.inl ()))
noncomputable def pool_Right (p0 : Pool) : Option Bool :=
  (
    if decide ((List.length (Pool.Frames p0) : Int) ≤ (64 : Int)) then
      (
        (
          let v5 : Int := (List.length (Pool.Frames p0) : Int)
          orExit (
            loopD (pool_Right_L1 (Pool.Frames p0) v5) (0 : Int) : Option (Unit ⊕ Int)) fun v6 =>
          some ((-1 : Int)) : Option Int).bind fun v5 =>
        some ((decide ((0 : Int) ≤ v5))) : Option Bool).bind fun v5 =>
      some ((!v5))
    else
      some (false) : Option Bool).bind fun v1 =>
  some (v1)
noncomputable def F_pool_Right : FnT := ⟨[tPool], [.bool], fun x => pool_Right x⟩
noncomputable def A_pool_Right : TA :=
 .sub0 [.bool] (
  .prim (.fld 0) [.v 0] <|
  .prim .len [.v 1] <|
  .prim (.bin .leq) [.v 2, .c (.int .i64 64)] <|
  .ite (.v 3) (
   .prim (.fld 0) [.v 0] <|
   .sub0 [.bool] (
    .sub0 [.int .i64] (
     .prim .len [.v 4] <|
     .sub1 [] (
      .loop [.int .i64] [.c (.int .i64 0)] (
       .prim (.bin .lss) [.v 6, .v 5] <|
       .ite (.v 7) (
        .prim .get [.v 4, .v 6] <|
        .callp 102 F_pool_Right_1 [.v 8] 1 <|
        .ite (.v 9) (
         .jmp 2 false [.v 6]) (
         .prim (.bin .add) [.v 6, .c (.int .i64 1)] <|
         .jmp 0 true [.v 10])) (
        .jmp 1 false []))) 0 <|
     .jmp 0 false [.c (.int .i64 (-1))]) 1 <|
    .prim (.bin .geq) [.v 5, .c (.int .i64 0)] <|
    .jmp 0 false [.v 6]) 1 <|
   .prim (.un .not) [.v 5] <|
   .jmp 0 false [.v 6]) (
   .jmp 0 false [.c (.bool false)])) 1 <|
 .jmp 0 false [.v 1]
theorem a_pool_Right : treeOf cx 12 51 = some A_pool_Right.erase := by kernel_rfl
theorem k_pool_Right : FnOk cx 12 noC 51 F_pool_Right := fn_ok (t := A_pool_Right) a_pool_Right (fun _ => rfl) (ok_of [(102, F_pool_Right_1.fn)] (by kernel_rfl) (.cons k_pool_Right_1 .nil)) (fun x => by kernel_rfl)

/-! 127: backstay/frame.lay -/
noncomputable def frame_lay_L1 (x20 : List (List Int)) (x25 : Int) (s : (Int × Int × (List Int))) : Option ((Int × Int × (List Int)) ⊕ (Int × (List Int))) :=
  if decide (s.2.1 < x25) then
    (idxO (List.length x20 : Int) s.2.1).bind fun v30 =>
    (getO x20 v30).bind fun v31 =>
    (appvO 1 s.2.2 s.1 v31).bind fun v32 =>
    some (Sum.inl (s.1 + (List.length v31 : Int), w64 (s.2.1 + (1 : Int)), v32))
  else
    some (Sum.inr ((s.1, s.2.2)))
noncomputable def frame_lay_L2 (x20 : List (List Int)) (x21 : Int) (s : (Int × Int)) : Option ((Int × Int) ⊕ Int) :=
  if decide (s.2 < x21) then
    (idxO (List.length x20 : Int) s.2).bind fun v25 =>
    (getO x20 v25).bind fun v26 =>
    let v28 : Int := w64 (s.1 + (List.length v26 : Int))
    if decide (v28 < (0 : Int)) then
      none
    else
      some (Sum.inl (v28, w64 (s.2 + (1 : Int))))
  else
    some (Sum.inr (s.1))
noncomputable def frame_lay (p0 : Msg) : Option (List Int) :=
  (word_Bytes (Msg.Num p0)).bind fun v17 =>
  (word_Bytes (Msg.Val p0)).bind fun v19 =>
  let v20 : List (List Int) := ([([wu8 (Msg.Kind p0), wu8 (Msg.From p0), wu8 (Msg.To p0), wu8 (Msg.Line p0), wu8 (Msg.For p0), wu8 (Msg.Acks p0), bif Msg.Own p0 then (1 : Int) else (0 : Int)] : List Int), v17, v19] : List (List Int))
  (
    let v21 : Int := (List.length v20 : Int)
    (
      loopD (frame_lay_L2 v20 v21) ((0 : Int), (0 : Int)) : Option Int).bind fun v22 =>
    (
      if decide (v22 < (0 : Int)) then
        none
      else
        let v24 : Int := w64 (v22 - (0 : Int))
        (
          if decide ((0 : Int) < v24) then
            (zextO (0 : Int) 1 ([] : List Int) v24).bind fun v26 =>
            (rngO (List.length v26 : Int) (0 : Int) (0 : Int)).bind fun v28 =>
            some ((v28, v26))
          else
            some (((0 : Int), ([] : List Int))) : Option (Int × (List Int))).bind fun v26 =>
        some ((v26.1, v26.2)) : Option (Int × (List Int))).bind fun v23 =>
    let v25 : Int := (List.length v20 : Int)
    (
      loopD (frame_lay_L1 v20 v25) (v23.1, (0 : Int), v23.2) : Option (Int × (List Int))).bind fun v26 =>
    some ((v26.1, v26.2)) : Option (Int × (List Int))).bind fun v21 =>
  (subO v21.2 (0 : Int) v21.1).bind fun v23 =>
  (frame_Sum v23).bind fun v24 =>
  (word_Bytes v24).bind fun v25 =>
  (appvO 1 v21.2 v21.1 v25).bind fun v26 =>
  (subO v26 (0 : Int) (v21.1 + (List.length v25 : Int))).bind fun v29 =>
  some (v29)
noncomputable def F_frame_lay : FnT := ⟨[tMsg], [.sl (.int .u8)], fun x => frame_lay x⟩
noncomputable def A_frame_lay : TA :=
 .prim (.fld 6) [.v 0] <|
 .subp [.int .u8] (
  .ite (.v 1) (
   .jmp 0 false [.c (.int .u8 1)]) (
   .jmp 0 false [.c (.int .u8 0)])) 1 <|
 .prim (.fld 0) [.v 0] <|
 .prim (.conv .u8) [.v 3] <|
 .prim (.fld 1) [.v 0] <|
 .prim (.conv .u8) [.v 5] <|
 .prim (.fld 2) [.v 0] <|
 .prim (.conv .u8) [.v 7] <|
 .prim (.fld 3) [.v 0] <|
 .prim (.conv .u8) [.v 9] <|
 .prim (.fld 4) [.v 0] <|
 .prim (.conv .u8) [.v 11] <|
 .prim (.fld 5) [.v 0] <|
 .prim (.conv .u8) [.v 13] <|
 .mkL (.int .u8) [.v 4, .v 6, .v 8, .v 10, .v 12, .v 14, .v 2] <|
 .prim (.fld 7) [.v 0] <|
 .call 155 F_word_Bytes [.v 16] 1 <|
 .prim (.fld 8) [.v 0] <|
 .call 155 F_word_Bytes [.v 18] 1 <|
 .mkL (.sl (.int .u8)) [.v 15, .v 17, .v 19] <|
 .sub0 [.int .i64, .sl (.int .u8)] (
  .prim .len [.v 20] <|
  .sub0 [.int .i64] (
   .loop [.int .i64, .int .i64] [.c (.int .i64 0), .c (.int .i64 0)] (
    .prim (.bin .lss) [.v 23, .v 21] <|
    .ite (.v 24) (
     .prim .idx [.v 20, .v 23] <|
     .prim .get [.v 20, .v 25] <|
     .prim .len [.v 26] <|
     .prim (.bin .add) [.v 22, .v 27] <|
     .prim (.bin .lss) [.v 28, .c (.int .i64 0)] <|
     .ite (.v 29) (
      .fail 153) (
      .prim (.bin .add) [.v 23, .c (.int .i64 1)] <|
      .jmp 0 true [.v 28, .v 30])) (
     .jmp 1 false [.v 22]))) 1 <|
  .sub0 [.int .i64, .sl (.int .u8)] (
   .prim (.bin .lss) [.v 22, .c (.int .i64 0)] <|
   .ite (.v 23) (
    .fail 153) (
    .prim (.bin .sub) [.v 22, .c (.int .i64 0)] <|
    .prim (.bin .gtr) [.v 24, .c (.int .i64 0)] <|
    .sub0 [.int .i64, .sl (.int .u8)] (
     .ite (.v 25) (
      .primH (.zext (.int .u8 0) 1) (.sl (.int .u8)) [.c .nil, .v 24] <|
      .prim .len [.v 26] <|
      .prim .rng [.v 26, .c (.int .i64 0), .c (.int .i64 0)] <|
      .jmp 0 false [.v 28, .v 26]) (
      .jmp 0 false [.c (.int .i64 0), .c .nil])) 2 <|
    .jmp 0 false [.v 26, .v 27])) 2 <|
  .prim .len [.v 20] <|
  .sub0 [.int .i64, .sl (.int .u8)] (
   .loop [.int .i64, .int .i64, .sl (.int .u8)] [.v 23, .c (.int .i64 0), .v 24] (
    .prim (.bin .lss) [.v 27, .v 25] <|
    .ite (.v 29) (
     .prim .idx [.v 20, .v 27] <|
     .prim .get [.v 20, .v 30] <|
     .prim (.appv 1) [.v 28, .v 26, .v 31] <|
     .prim .len [.v 31] <|
     .prim .vadd [.v 26, .v 33] <|
     .prim (.bin .add) [.v 27, .c (.int .i64 1)] <|
     .jmp 0 true [.v 34, .v 35, .v 32]) (
     .jmp 1 false [.v 26, .v 28]))) 2 <|
  .jmp 0 false [.v 26, .v 27]) 2 <|
 .prim .sub [.v 22, .c (.int .i64 0), .v 21] <|
 .call 130 F_frame_Sum [.v 23] 1 <|
 .call 155 F_word_Bytes [.v 24] 1 <|
 .prim (.appv 1) [.v 22, .v 21, .v 25] <|
 .prim .len [.v 25] <|
 .prim .vadd [.v 21, .v 27] <|
 .prim .sub [.v 26, .c (.int .i64 0), .v 28] <|
 .jmp 0 false [.v 29]
theorem a_frame_lay : treeOf cx 12 127 = some A_frame_lay.erase := by kernel_rfl
theorem k_frame_lay : FnOk cx 12 noC 127 F_frame_lay := fn_ok (t := A_frame_lay) a_frame_lay (fun _ => rfl) (ok_of [(155, F_word_Bytes), (155, F_word_Bytes), (130, F_frame_Sum), (155, F_word_Bytes)] (by kernel_rfl) (.cons k_word_Bytes (.cons k_word_Bytes (.cons k_frame_Sum (.cons k_word_Bytes .nil))))) (fun x => by kernel_rfl)

/-! 152: backstay/frame.May$1 -/
def frame_May_1 (p0 : Int) : Bool :=
  !(frame_byteOf p0)
def F_frame_May_1 : PnT := ⟨[.int .i64], [.bool], fun x => frame_May_1 x⟩
def A_frame_May_1 : TA :=
 .callp 153 F_frame_byteOf [.v 0] 1 <|
 .prim (.un .not) [.v 1] <|
 .jmp 0 false [.v 2]
theorem a_frame_May_1 : treeOf cx 12 152 = some A_frame_May_1.erase := by kernel_rfl
theorem k_frame_May_1 : FnOk cx 12 noC 152 F_frame_May_1.fn := pn_ok (t := A_frame_May_1) a_frame_May_1 (fun _ => rfl) (ok_of [(153, F_frame_byteOf.fn)] (by kernel_rfl) (.cons k_frame_byteOf .nil)) (fun x => by kernel_rfl)

/-! 32: backstay/pool.Room -/
noncomputable def pool_Room (p0 : Pool) : Option Int :=
  (pool_Right p0).bind fun v1 =>
  if !v1 then
    some ((0 : Int))
  else
    some ((w64 ((64 : Int) - (List.length (Pool.Frames p0) : Int))))
noncomputable def F_pool_Room : FnT := ⟨[tPool], [.int .i64], fun x => pool_Room x⟩
noncomputable def A_pool_Room : TA :=
 .call 51 F_pool_Right [.v 0] 1 <|
 .prim (.un .not) [.v 1] <|
 .ite (.v 2) (
  .jmp 0 false [.c (.int .i64 0)]) (
  .prim (.fld 0) [.v 0] <|
  .prim .len [.v 3] <|
  .prim (.bin .sub) [.c (.int .i64 64), .v 4] <|
  .jmp 0 false [.v 5])
theorem a_pool_Room : treeOf cx 12 32 = some A_pool_Room.erase := by kernel_rfl
theorem k_pool_Room : FnOk cx 12 noC 32 F_pool_Room := fn_ok (t := A_pool_Room) a_pool_Room (fun _ => rfl) (ok_of [(51, F_pool_Right)] (by kernel_rfl) (.cons k_pool_Right .nil)) (fun x => by kernel_rfl)

/-! 99: backstay/pool.has -/
noncomputable def pool_has (p0 : Pool) (p1 : Int) : Option Int :=
  (pool_Right p0).bind fun v2 =>
  if !v2 then
    some ((1 : Int))
  else
    if (decide (p1 < (0 : Int))) || (decide ((List.length (Pool.Frames p0) : Int) ≤ p1)) then
      some ((7 : Int))
    else
      some ((0 : Int))
noncomputable def F_pool_has : FnT := ⟨[tPool, .int .i64], [.int .i64], fun x => pool_has x.1 x.2⟩
noncomputable def A_pool_has : TA :=
 .call 51 F_pool_Right [.v 0] 1 <|
 .prim (.un .not) [.v 2] <|
 .ite (.v 3) (
  .jmp 0 false [.c (.int .i64 1)]) (
  .subp [.bool] (
   .prim (.bin .lss) [.v 1, .c (.int .i64 0)] <|
   .ite (.v 4) (
    .jmp 0 false [.c (.bool true)]) (
    .prim (.fld 0) [.v 0] <|
    .prim .len [.v 5] <|
    .prim (.bin .geq) [.v 1, .v 6] <|
    .jmp 0 false [.v 7])) 1 <|
  .ite (.v 4) (
   .jmp 0 false [.c (.int .i64 7)]) (
   .jmp 0 false [.c (.int .i64 0)]))
theorem a_pool_has : treeOf cx 12 99 = some A_pool_has.erase := by kernel_rfl
theorem k_pool_has : FnOk cx 12 noC 99 F_pool_has := fn_ok (t := A_pool_has) a_pool_has (fun _ => rfl) (ok_of [(51, F_pool_Right)] (by kernel_rfl) (.cons k_pool_Right .nil)) (fun x => by kernel_rfl)

/-! 126: backstay/frame.May -/
noncomputable def frame_May_L1 (x6 : List Int) (x7 : Int) (s : Int) : Option (Int ⊕ Unit ⊕ Int) :=
  if decide (s < x7) then
    (idxO (List.length x6 : Int) s).bind fun v10 =>
    (getO x6 v10).bind fun v11 =>
    if frame_May_1 v11 then
      some (Sum.inr (Sum.inr (s)))
    else
      some (Sum.inl (w64 (s + (1 : Int))))
  else
    some (Sum.inr (Sum.inl ()))
noncomputable def frame_May (p0 : Msg) : Option Bool :=
  let v6 : List Int := ([Msg.From p0, Msg.To p0, Msg.Line p0, Msg.For p0, Msg.Acks p0] : List Int)
  (
    (
      let v7 : Int := (List.length v6 : Int)
      orExit (
        loopD (frame_May_L1 v6 v7) (0 : Int) : Option (Unit ⊕ Int)) fun v8 =>
      some ((-1 : Int)) : Option Int).bind fun v7 =>
    some ((decide ((0 : Int) ≤ v7))) : Option Bool).bind fun v7 =>
  some (((!v7) && ((decide ((1 : Int) ≤ (Msg.Kind p0))) && (decide ((Msg.Kind p0) ≤ (11 : Int))))))
noncomputable def F_frame_May : FnT := ⟨[tMsg], [.bool], fun x => frame_May x⟩
noncomputable def A_frame_May : TA :=
 .prim (.fld 1) [.v 0] <|
 .prim (.fld 2) [.v 0] <|
 .prim (.fld 3) [.v 0] <|
 .prim (.fld 4) [.v 0] <|
 .prim (.fld 5) [.v 0] <|
 .mkL (.int .i64) [.v 1, .v 2, .v 3, .v 4, .v 5] <|
 .sub0 [.bool] (
  .sub0 [.int .i64] (
   .prim .len [.v 6] <|
   .sub1 [] (
    .loop [.int .i64] [.c (.int .i64 0)] (
     .prim (.bin .lss) [.v 8, .v 7] <|
     .ite (.v 9) (
      .prim .idx [.v 6, .v 8] <|
      .prim .get [.v 6, .v 10] <|
      .callp 152 F_frame_May_1 [.v 11] 1 <|
      .ite (.v 12) (
       .jmp 2 false [.v 8]) (
       .prim (.bin .add) [.v 8, .c (.int .i64 1)] <|
       .jmp 0 true [.v 13])) (
      .jmp 1 false []))) 0 <|
   .jmp 0 false [.c (.int .i64 (-1))]) 1 <|
  .prim (.bin .geq) [.v 7, .c (.int .i64 0)] <|
  .jmp 0 false [.v 8]) 1 <|
 .prim (.un .not) [.v 7] <|
 .subp [.bool] (
  .ite (.v 8) (
   .prim (.fld 0) [.v 0] <|
   .prim (.bin .geq) [.v 9, .c (.int .i64 1)] <|
   .ite (.v 10) (
    .prim (.fld 0) [.v 0] <|
    .prim (.bin .leq) [.v 11, .c (.int .i64 11)] <|
    .jmp 0 false [.v 12]) (
    .jmp 0 false [.c (.bool false)])) (
   .jmp 0 false [.c (.bool false)])) 1 <|
 .jmp 0 false [.v 9]
theorem a_frame_May : treeOf cx 12 126 = some A_frame_May.erase := by kernel_rfl
theorem k_frame_May : FnOk cx 12 noC 126 F_frame_May := fn_ok (t := A_frame_May) a_frame_May (fun _ => rfl) (ok_of [(152, F_frame_May_1.fn)] (by kernel_rfl) (.cons k_frame_May_1 .nil)) (fun x => by kernel_rfl)

/-! 44: backstay/pool.Drop -/
noncomputable def pool_Drop_L1 (x3 : List (List Int)) (x4 : Int) (s : (Int × (List (List Int)))) : Option ((Int × (List (List Int))) ⊕ (List (List Int))) :=
  if decide (s.1 < x4) then
    (getO x3 s.1).bind fun v8 =>
    (cloneO 1 v8).bind fun v9 =>
    (appO 24 s.2 ([v9] : List (List Int))).bind fun v11 =>
    some (Sum.inl (w64 (s.1 + (1 : Int)), v11))
  else
    some (Sum.inr (s.2))
noncomputable def pool_Drop (p0 : Pool) (p1 : Int) : Option (Pool × Int) :=
  (pool_has p0 p1).bind fun v2 =>
  (
    let v4 : Int := (List.length (Pool.Frames p0) : Int)
    (
      loopD (pool_Drop_L1 (Pool.Frames p0) v4) ((0 : Int), ([] : List (List Int))) : Option (List (List Int))).bind fun v5 =>
    some (v5) : Option (List (List Int))).bind fun v3 =>
  (
    if decide (v2 = (0 : Int)) then
      let v5 : Int := w64 (p1 + (1 : Int))
      (
        (rng3O (List.length v3 : Int) p1 v5 (List.length v3 : Int)).bind fun v7 =>
        if decide (p1 = v5) then
          some (((List.length v3 : Int), v3))
        else
          (rngO (List.length v3 : Int) (0 : Int) p1).bind fun v11 =>
          (rngO (List.length v3 : Int) v5 (List.length v3 : Int)).bind fun v13 =>
          (subO v3 v5 v13).bind fun v14 =>
          (appvO 24 v3 v11 v14).bind fun v15 =>
          let v17 : Int := v11 + (List.length v14 : Int)
          let v18 : Int := v17 - (0 : Int)
          (rngvO (List.length v15 : Int) (0 : Int) v18 (List.length v3 : Int)).bind fun v20 =>
          let v21 : Int := (0 : Int) + v18
          (subO v15 v21 v20).bind fun v22 =>
          (cpyvO v15 v21 v20 (List.replicate (List.length v22) ([] : List Int))).bind fun v24 =>
          some ((v17, v24)) : Option (Int × (List (List Int)))).bind fun v6 =>
      some ((v6.1, v6.2))
    else
      some (((List.length v3 : Int), v3)) : Option (Int × (List (List Int)))).bind fun v5 =>
  (subO v5.2 (0 : Int) v5.1).bind fun v7 =>
  some ((Pool.mk v7, v2))
noncomputable def F_pool_Drop : FnT := ⟨[tPool, .int .i64], [tPool, .int .i64], fun x => pool_Drop x.1 x.2⟩
noncomputable def A_pool_Drop : TA :=
 .call 99 F_pool_has [.v 0, .v 1] 1 <|
 .sub0 [.sl (.sl (.int .u8))] (
  .prim (.fld 0) [.v 0] <|
  .prim .len [.v 3] <|
  .sub0 [.sl (.sl (.int .u8))] (
   .loop [.int .i64, .sl (.sl (.int .u8))] [.c (.int .i64 0), .c .nil] (
    .prim (.bin .lss) [.v 5, .v 4] <|
    .ite (.v 7) (
     .prim .get [.v 3, .v 5] <|
     .prim (.clone 1) [.v 8] <|
     .mkL (.sl (.int .u8)) [.v 9] <|
     .prim (.app 24) [.v 6, .v 10] <|
     .prim (.bin .add) [.v 5, .c (.int .i64 1)] <|
     .jmp 0 true [.v 12, .v 11]) (
     .jmp 1 false [.v 6]))) 1 <|
  .jmp 0 false [.v 5]) 1 <|
 .prim (.bin .eql) [.v 2, .c (.int .i64 0)] <|
 .sub0 [.int .i64, .sl (.sl (.int .u8))] (
  .ite (.v 4) (
   .prim (.bin .add) [.v 1, .c (.int .i64 1)] <|
   .sub0 [.int .i64, .sl (.sl (.int .u8))] (
    .prim .len [.v 3] <|
    .prim .rng3 [.v 3, .v 1, .v 5, .v 6] <|
    .prim (.bin .eql) [.v 1, .v 5] <|
    .ite (.v 8) (
     .prim .len [.v 3] <|
     .jmp 0 false [.v 9, .v 3]) (
     .prim .len [.v 3] <|
     .prim .len [.v 3] <|
     .prim .rng [.v 3, .c (.int .i64 0), .v 1] <|
     .prim .len [.v 3] <|
     .prim .rng [.v 3, .v 5, .v 12] <|
     .prim .sub [.v 3, .v 5, .v 13] <|
     .prim (.appv 24) [.v 3, .v 11, .v 14] <|
     .prim .len [.v 14] <|
     .prim .vadd [.v 11, .v 16] <|
     .prim .vlen [.c (.int .i64 0), .v 17] <|
     .prim .vlen [.c (.int .i64 0), .v 17] <|
     .prim .rngv [.v 15, .c (.int .i64 0), .v 18, .v 9] <|
     .prim .vadd [.c (.int .i64 0), .v 18] <|
     .prim .sub [.v 15, .v 21, .v 20] <|
     .prim (.clr .nil) [.v 22] <|
     .prim .cpyv [.v 15, .v 21, .v 20, .v 23] <|
     .jmp 0 false [.v 17, .v 24])) 2 <|
   .jmp 0 false [.v 6, .v 7]) (
   .prim .len [.v 3] <|
   .jmp 0 false [.v 5, .v 3])) 2 <|
 .prim .sub [.v 6, .c (.int .i64 0), .v 5] <|
 .mkS tsPool [.v 7] <|
 .jmp 0 false [.v 8, .v 2]
theorem a_pool_Drop : treeOf cx 12 44 = some A_pool_Drop.erase := by kernel_rfl
theorem k_pool_Drop : FnOk cx 12 noC 44 F_pool_Drop := fn_ok (t := A_pool_Drop) a_pool_Drop (fun _ => rfl) (ok_of [(99, F_pool_has)] (by kernel_rfl) (.cons k_pool_has .nil)) (fun x => by kernel_rfl)

/-! 46: backstay/pool.Twice -/
noncomputable def pool_Twice_L1 (x4 : List (List Int)) (x5 : Int) (s : (Int × (List (List Int)))) : Option ((Int × (List (List Int))) ⊕ (List (List Int))) :=
  if decide (s.1 < x5) then
    (getO x4 s.1).bind fun v9 =>
    (cloneO 1 v9).bind fun v10 =>
    (appO 24 s.2 ([v10] : List (List Int))).bind fun v12 =>
    some (Sum.inl (w64 (s.1 + (1 : Int)), v12))
  else
    some (Sum.inr (s.2))
noncomputable def pool_Twice (p0 : Pool) (p1 : Int) : Option (Pool × Int) :=
  (pool_has p0 p1).bind fun v2 =>
  if !decide (v2 = (0 : Int)) then
    (
      let v5 : Int := (List.length (Pool.Frames p0) : Int)
      (
        loopD (pool_Twice_L1 (Pool.Frames p0) v5) ((0 : Int), ([] : List (List Int))) : Option (List (List Int))).bind fun v6 =>
      some (v6) : Option (List (List Int))).bind fun v4 =>
    some ((Pool.mk v4, v2))
  else
    (
      let v5 : Int := (List.length (Pool.Frames p0) : Int)
      (
        loopD (pool_Twice_L1 (Pool.Frames p0) v5) ((0 : Int), ([] : List (List Int))) : Option (List (List Int))).bind fun v6 =>
      some (v6) : Option (List (List Int))).bind fun v4 =>
    (getO (Pool.Frames p0) p1).bind fun v6 =>
    (
      (pool_Room (Pool.mk v4)).bind fun v8 =>
      if decide (v8 = (0 : Int)) then
        some (((6 : Int), v4))
      else
        (cloneO 1 v6).bind fun v10 =>
        (appO 24 v4 ([v10] : List (List Int))).bind fun v12 =>
        some (((0 : Int), v12)) : Option (Int × (List (List Int)))).bind fun v7 =>
    some ((Pool.mk v7.2, v7.1))
noncomputable def F_pool_Twice : FnT := ⟨[tPool, .int .i64], [tPool, .int .i64], fun x => pool_Twice x.1 x.2⟩
noncomputable def A_pool_Twice : TA :=
 .call 99 F_pool_has [.v 0, .v 1] 1 <|
 .prim (.bin .neq) [.v 2, .c (.int .i64 0)] <|
 .ite (.v 3) (
  .sub0 [.sl (.sl (.int .u8))] (
   .prim (.fld 0) [.v 0] <|
   .prim .len [.v 4] <|
   .sub0 [.sl (.sl (.int .u8))] (
    .loop [.int .i64, .sl (.sl (.int .u8))] [.c (.int .i64 0), .c .nil] (
     .prim (.bin .lss) [.v 6, .v 5] <|
     .ite (.v 8) (
      .prim .get [.v 4, .v 6] <|
      .prim (.clone 1) [.v 9] <|
      .mkL (.sl (.int .u8)) [.v 10] <|
      .prim (.app 24) [.v 7, .v 11] <|
      .prim (.bin .add) [.v 6, .c (.int .i64 1)] <|
      .jmp 0 true [.v 13, .v 12]) (
      .jmp 1 false [.v 7]))) 1 <|
   .jmp 0 false [.v 6]) 1 <|
  .mkS tsPool [.v 4] <|
  .jmp 0 false [.v 5, .v 2]) (
  .sub0 [.sl (.sl (.int .u8))] (
   .prim (.fld 0) [.v 0] <|
   .prim .len [.v 4] <|
   .sub0 [.sl (.sl (.int .u8))] (
    .loop [.int .i64, .sl (.sl (.int .u8))] [.c (.int .i64 0), .c .nil] (
     .prim (.bin .lss) [.v 6, .v 5] <|
     .ite (.v 8) (
      .prim .get [.v 4, .v 6] <|
      .prim (.clone 1) [.v 9] <|
      .mkL (.sl (.int .u8)) [.v 10] <|
      .prim (.app 24) [.v 7, .v 11] <|
      .prim (.bin .add) [.v 6, .c (.int .i64 1)] <|
      .jmp 0 true [.v 13, .v 12]) (
      .jmp 1 false [.v 7]))) 1 <|
   .jmp 0 false [.v 6]) 1 <|
  .prim (.fld 0) [.v 0] <|
  .prim .get [.v 5, .v 1] <|
  .sub0 [.int .i64, .sl (.sl (.int .u8))] (
   .mkS tsPool [.v 4] <|
   .call 32 F_pool_Room [.v 7] 1 <|
   .prim (.bin .eql) [.v 8, .c (.int .i64 0)] <|
   .ite (.v 9) (
    .jmp 0 false [.c (.int .i64 6), .v 4]) (
    .prim (.clone 1) [.v 6] <|
    .mkL (.sl (.int .u8)) [.v 10] <|
    .prim (.app 24) [.v 4, .v 11] <|
    .jmp 0 false [.c (.int .i64 0), .v 12])) 2 <|
  .mkS tsPool [.v 8] <|
  .jmp 0 false [.v 9, .v 7])
theorem a_pool_Twice : treeOf cx 12 46 = some A_pool_Twice.erase := by kernel_rfl
theorem k_pool_Twice : FnOk cx 12 noC 46 F_pool_Twice := fn_ok (t := A_pool_Twice) a_pool_Twice (fun _ => rfl) (ok_of [(99, F_pool_has), (32, F_pool_Room)] (by kernel_rfl) (.cons k_pool_has (.cons k_pool_Room .nil))) (fun x => by kernel_rfl)

/-! 48: backstay/pool.Spoil -/
noncomputable def pool_Spoil (p0 : Pool) (p1 : Int) (p2 : Int) : Option (Pool × Int) :=
  (pool_has p0 p1).bind fun v3 =>
  (
    let v5 : Int := (List.length (Pool.Frames p0) : Int)
    (
      loopD (pool_Twice_L1 (Pool.Frames p0) v5) ((0 : Int), ([] : List (List Int))) : Option (List (List Int))).bind fun v6 =>
    some (v6) : Option (List (List Int))).bind fun v4 =>
  let v6 : Int := bif (decide (v3 = (0 : Int))) && ((decide (p2 < (0 : Int))) || (decide ((152 : Int) ≤ p2))) then (1 : Int) else v3
  (
    if decide (v6 = (0 : Int)) then
      (idxO (List.length v4 : Int) p1).bind fun v8 =>
      (idxO (List.length v4 : Int) v8).bind fun v9 =>
      (quoO .i64 p2 (8 : Int)).bind fun v10 =>
      (getO v4 v9).bind fun v11 =>
      (idxO (List.length v11 : Int) v10).bind fun v12 =>
      (getO v4 v9).bind fun v13 =>
      (getO v13 v12).bind fun v14 =>
      (remO p2 (8 : Int)).bind fun v15 =>
      (shlO .u8 (1 : Int) v15).bind fun v16 =>
      (getO v4 v9).bind fun v18 =>
      (idxO (List.length v18 : Int) v10).bind fun v19 =>
      (getO v4 v9).bind fun v20 =>
      (setO v20 v19 (bXor .u8 v14 v16)).bind fun v21 =>
      (setO v4 v9 v21).bind fun v22 =>
      some (v22)
    else
      some (v4) : Option (List (List Int))).bind fun v8 =>
  some ((Pool.mk v8, v6))
noncomputable def F_pool_Spoil : FnT := ⟨[tPool, .int .i64, .int .i64], [tPool, .int .i64], fun x => pool_Spoil x.1 x.2.1 x.2.2⟩
noncomputable def A_pool_Spoil : TA :=
 .call 99 F_pool_has [.v 0, .v 1] 1 <|
 .sub0 [.sl (.sl (.int .u8))] (
  .prim (.fld 0) [.v 0] <|
  .prim .len [.v 4] <|
  .sub0 [.sl (.sl (.int .u8))] (
   .loop [.int .i64, .sl (.sl (.int .u8))] [.c (.int .i64 0), .c .nil] (
    .prim (.bin .lss) [.v 6, .v 5] <|
    .ite (.v 8) (
     .prim .get [.v 4, .v 6] <|
     .prim (.clone 1) [.v 9] <|
     .mkL (.sl (.int .u8)) [.v 10] <|
     .prim (.app 24) [.v 7, .v 11] <|
     .prim (.bin .add) [.v 6, .c (.int .i64 1)] <|
     .jmp 0 true [.v 13, .v 12]) (
     .jmp 1 false [.v 7]))) 1 <|
  .jmp 0 false [.v 6]) 1 <|
 .subp [.bool] (
  .prim (.bin .eql) [.v 3, .c (.int .i64 0)] <|
  .ite (.v 5) (
   .prim (.bin .lss) [.v 2, .c (.int .i64 0)] <|
   .ite (.v 6) (
    .jmp 0 false [.c (.bool true)]) (
    .prim (.bin .geq) [.v 2, .c (.int .i64 152)] <|
    .jmp 0 false [.v 7])) (
   .jmp 0 false [.c (.bool false)])) 1 <|
 .subp [.int .i64] (
  .ite (.v 5) (
   .jmp 0 false [.c (.int .i64 1)]) (
   .jmp 0 false [.v 3])) 1 <|
 .prim (.bin .eql) [.v 6, .c (.int .i64 0)] <|
 .sub0 [.sl (.sl (.int .u8))] (
  .ite (.v 7) (
   .prim .idx [.v 4, .v 1] <|
   .prim .idx [.v 4, .v 8] <|
   .prim (.bin .quo) [.v 2, .c (.int .i64 8)] <|
   .prim .get [.v 4, .v 9] <|
   .prim .idx [.v 11, .v 10] <|
   .prim .get [.v 4, .v 9] <|
   .prim .get [.v 13, .v 12] <|
   .prim (.bin .rem) [.v 2, .c (.int .i64 8)] <|
   .prim (.bin .shl) [.c (.int .u8 1), .v 15] <|
   .prim (.bin .xor) [.v 14, .v 16] <|
   .prim .get [.v 4, .v 9] <|
   .prim .idx [.v 18, .v 10] <|
   .prim .get [.v 4, .v 9] <|
   .prim .set [.v 20, .v 19, .v 17] <|
   .prim .set [.v 4, .v 9, .v 21] <|
   .jmp 0 false [.v 22]) (
   .jmp 0 false [.v 4])) 1 <|
 .mkS tsPool [.v 8] <|
 .jmp 0 false [.v 9, .v 6]
theorem a_pool_Spoil : treeOf cx 12 48 = some A_pool_Spoil.erase := by kernel_rfl
theorem k_pool_Spoil : FnOk cx 12 noC 48 F_pool_Spoil := fn_ok (t := A_pool_Spoil) a_pool_Spoil (fun _ => rfl) (ok_of [(99, F_pool_has)] (by kernel_rfl) (.cons k_pool_has .nil)) (fun x => by kernel_rfl)

/-! 84: backstay/frame.Put -/
noncomputable def frame_Put (p0 : Msg) : Option ((List Int) × Int) :=
  (frame_May p0).bind fun v1 =>
  if !v1 then
    some ((([] : List Int), (1 : Int)))
  else
    (frame_lay p0).bind fun v3 =>
    some ((v3, (0 : Int)))
noncomputable def F_frame_Put : FnT := ⟨[tMsg], [.sl (.int .u8), .int .i64], fun x => frame_Put x⟩
noncomputable def A_frame_Put : TA :=
 .call 126 F_frame_May [.v 0] 1 <|
 .prim (.un .not) [.v 1] <|
 .ite (.v 2) (
  .jmp 0 false [.c .nil, .c (.int .i64 1)]) (
  .call 127 F_frame_lay [.v 0] 1 <|
  .jmp 0 false [.v 3, .c (.int .i64 0)])
theorem a_frame_Put : treeOf cx 12 84 = some A_frame_Put.erase := by kernel_rfl
theorem k_frame_Put : FnOk cx 12 noC 84 F_frame_Put := fn_ok (t := A_frame_Put) a_frame_Put (fun _ => rfl) (ok_of [(126, F_frame_May), (127, F_frame_lay)] (by kernel_rfl) (.cons k_frame_May (.cons k_frame_lay .nil))) (fun x => by kernel_rfl)

/-! 87: backstay/frame.Read -/
noncomputable def frame_Read (p0 : List Int) : Option (Msg × Int) :=
  if decide ((List.length p0 : Int) < (19 : Int)) then
    some (((Msg.mk (0 : Int) (0 : Int) (0 : Int) (0 : Int) (0 : Int) (0 : Int) false (0 : Int) (0 : Int)), (3 : Int)))
  else
    if decide ((19 : Int) < (List.length p0 : Int)) then
      some (((Msg.mk (0 : Int) (0 : Int) (0 : Int) (0 : Int) (0 : Int) (0 : Int) false (0 : Int) (0 : Int)), (4 : Int)))
    else
      (subO p0 (15 : Int) (List.length p0 : Int)).bind fun v6 =>
      (word_Of v6).bind fun v7 =>
      (subO p0 (0 : Int) (15 : Int)).bind fun v9 =>
      (frame_Sum v9).bind fun v10 =>
      if !decide (v7 = v10) then
        some (((Msg.mk (0 : Int) (0 : Int) (0 : Int) (0 : Int) (0 : Int) (0 : Int) false (0 : Int) (0 : Int)), (5 : Int)))
      else
        (getO p0 (0 : Int)).bind fun v12 =>
        (getO p0 (1 : Int)).bind fun v14 =>
        (getO p0 (2 : Int)).bind fun v16 =>
        (getO p0 (3 : Int)).bind fun v18 =>
        (getO p0 (4 : Int)).bind fun v20 =>
        (getO p0 (5 : Int)).bind fun v22 =>
        (getO p0 (6 : Int)).bind fun v24 =>
        (subO p0 (7 : Int) (List.length p0 : Int)).bind fun v27 =>
        (word_Of v27).bind fun v28 =>
        (subO p0 (11 : Int) (List.length p0 : Int)).bind fun v30 =>
        (word_Of v30).bind fun v31 =>
        let v32 : Msg := Msg.mk (w64 v12) (w64 v14) (w64 v16) (w64 v18) (w64 v20) (w64 v22) (decide (v24 = (1 : Int))) v28 v31
        (
          (frame_May v32).bind fun v33 =>
          if !v33 then
            some (true)
          else
            (frame_lay v32).bind fun v35 =>
            (bytes_Equal v35 p0).bind fun v36 =>
            some ((!v36)) : Option Bool).bind fun v33 =>
        if v33 then
          some (((Msg.mk (0 : Int) (0 : Int) (0 : Int) (0 : Int) (0 : Int) (0 : Int) false (0 : Int) (0 : Int)), (2 : Int)))
        else
          some ((v32, (0 : Int)))
noncomputable def F_frame_Read : FnT := ⟨[.sl (.int .u8)], [tMsg, .int .i64], fun x => frame_Read x⟩
noncomputable def A_frame_Read : TA :=
 .prim .len [.v 0] <|
 .prim (.bin .lss) [.v 1, .c (.int .i64 19)] <|
 .ite (.v 2) (
  .jmp 0 false [.c (.agg [(.int .i64 0), (.int .i64 0), (.int .i64 0), (.int .i64 0), (.int .i64 0), (.int .i64 0), (.bool false), (.int .u32 0), (.int .u32 0)]), .c (.int .i64 3)]) (
  .prim .len [.v 0] <|
  .prim (.bin .gtr) [.v 3, .c (.int .i64 19)] <|
  .ite (.v 4) (
   .jmp 0 false [.c (.agg [(.int .i64 0), (.int .i64 0), (.int .i64 0), (.int .i64 0), (.int .i64 0), (.int .i64 0), (.bool false), (.int .u32 0), (.int .u32 0)]), .c (.int .i64 4)]) (
   .prim .len [.v 0] <|
   .prim .sub [.v 0, .c (.int .i64 15), .v 5] <|
   .call 129 F_word_Of [.v 6] 1 <|
   .prim .len [.v 0] <|
   .prim .sub [.v 0, .c (.int .i64 0), .c (.int .i64 15)] <|
   .call 130 F_frame_Sum [.v 9] 1 <|
   .prim (.bin .neq) [.v 7, .v 10] <|
   .ite (.v 11) (
    .jmp 0 false [.c (.agg [(.int .i64 0), (.int .i64 0), (.int .i64 0), (.int .i64 0), (.int .i64 0), (.int .i64 0), (.bool false), (.int .u32 0), (.int .u32 0)]), .c (.int .i64 5)]) (
    .prim .get [.v 0, .c (.int .i64 0)] <|
    .prim (.conv .i64) [.v 12] <|
    .prim .get [.v 0, .c (.int .i64 1)] <|
    .prim (.conv .i64) [.v 14] <|
    .prim .get [.v 0, .c (.int .i64 2)] <|
    .prim (.conv .i64) [.v 16] <|
    .prim .get [.v 0, .c (.int .i64 3)] <|
    .prim (.conv .i64) [.v 18] <|
    .prim .get [.v 0, .c (.int .i64 4)] <|
    .prim (.conv .i64) [.v 20] <|
    .prim .get [.v 0, .c (.int .i64 5)] <|
    .prim (.conv .i64) [.v 22] <|
    .prim .get [.v 0, .c (.int .i64 6)] <|
    .prim (.bin .eql) [.v 24, .c (.int .u8 1)] <|
    .prim .len [.v 0] <|
    .prim .sub [.v 0, .c (.int .i64 7), .v 26] <|
    .call 129 F_word_Of [.v 27] 1 <|
    .prim .len [.v 0] <|
    .prim .sub [.v 0, .c (.int .i64 11), .v 29] <|
    .call 129 F_word_Of [.v 30] 1 <|
    .mkS tsMsg [.v 13, .v 15, .v 17, .v 19, .v 21, .v 23, .v 25, .v 28, .v 31] <|
    .sub0 [.bool] (
     .call 126 F_frame_May [.v 32] 1 <|
     .prim (.un .not) [.v 33] <|
     .ite (.v 34) (
      .jmp 0 false [.c (.bool true)]) (
      .call 127 F_frame_lay [.v 32] 1 <|
      .call 131 F_bytes_Equal [.v 35, .v 0] 1 <|
      .prim (.un .not) [.v 36] <|
      .jmp 0 false [.v 37])) 1 <|
    .ite (.v 33) (
     .jmp 0 false [.c (.agg [(.int .i64 0), (.int .i64 0), (.int .i64 0), (.int .i64 0), (.int .i64 0), (.int .i64 0), (.bool false), (.int .u32 0), (.int .u32 0)]), .c (.int .i64 2)]) (
     .jmp 0 false [.v 32, .c (.int .i64 0)]))))
theorem a_frame_Read : treeOf cx 12 87 = some A_frame_Read.erase := by kernel_rfl
theorem k_frame_Read : FnOk cx 12 noC 87 F_frame_Read := fn_ok (t := A_frame_Read) a_frame_Read (fun _ => rfl) (ok_of [(129, F_word_Of), (130, F_frame_Sum), (129, F_word_Of), (129, F_word_Of), (126, F_frame_May), (127, F_frame_lay), (131, F_bytes_Equal)] (by kernel_rfl) (.cons k_word_Of (.cons k_frame_Sum (.cons k_word_Of (.cons k_word_Of (.cons k_frame_May (.cons k_frame_lay (.cons k_bytes_Equal .nil)))))))) (fun x => by kernel_rfl)

/-! 30: backstay/pool.Send -/
noncomputable def pool_Send_L1 (x5 : List (List Int)) (x6 : Int) (s : (Int × (List (List Int)))) : Option ((Int × (List (List Int))) ⊕ (List (List Int))) :=
  if decide (s.1 < x6) then
    (getO x5 s.1).bind fun v10 =>
    (cloneO 1 v10).bind fun v11 =>
    (appO 24 s.2 ([v11] : List (List Int))).bind fun v13 =>
    some (Sum.inl (w64 (s.1 + (1 : Int)), v13))
  else
    some (Sum.inr (s.2))
noncomputable def pool_Send (p0 : Pool) (p1 : Msg) : Option (Pool × Int) :=
  (frame_Put p1).bind fun v2 =>
  (
    (pool_Right p0).bind fun v4 =>
    if !v4 then
      some (true)
    else
      some ((!decide (v2.2 = (0 : Int)))) : Option Bool).bind fun v4 =>
  if v4 then
    (
      let v6 : Int := (List.length (Pool.Frames p0) : Int)
      (
        loopD (pool_Send_L1 (Pool.Frames p0) v6) ((0 : Int), ([] : List (List Int))) : Option (List (List Int))).bind fun v7 =>
      some (v7) : Option (List (List Int))).bind fun v5 =>
    some ((Pool.mk v5, (1 : Int)))
  else
    (
      let v6 : Int := (List.length (Pool.Frames p0) : Int)
      (
        loopD (pool_Send_L1 (Pool.Frames p0) v6) ((0 : Int), ([] : List (List Int))) : Option (List (List Int))).bind fun v7 =>
      some (v7) : Option (List (List Int))).bind fun v5 =>
    (
      (pool_Room (Pool.mk v5)).bind fun v7 =>
      if decide (v7 = (0 : Int)) then
        some (((6 : Int), v5))
      else
        (cloneO 1 v2.1).bind fun v9 =>
        (appO 24 v5 ([v9] : List (List Int))).bind fun v11 =>
        some (((0 : Int), v11)) : Option (Int × (List (List Int)))).bind fun v6 =>
    some ((Pool.mk v6.2, v6.1))
noncomputable def F_pool_Send : FnT := ⟨[tPool, tMsg], [tPool, .int .i64], fun x => pool_Send x.1 x.2⟩
noncomputable def A_pool_Send : TA :=
 .call 84 F_frame_Put [.v 1] 2 <|
 .sub0 [.bool] (
  .call 51 F_pool_Right [.v 0] 1 <|
  .prim (.un .not) [.v 4] <|
  .ite (.v 5) (
   .jmp 0 false [.c (.bool true)]) (
   .prim (.bin .neq) [.v 3, .c (.int .i64 0)] <|
   .jmp 0 false [.v 6])) 1 <|
 .ite (.v 4) (
  .sub0 [.sl (.sl (.int .u8))] (
   .prim (.fld 0) [.v 0] <|
   .prim .len [.v 5] <|
   .sub0 [.sl (.sl (.int .u8))] (
    .loop [.int .i64, .sl (.sl (.int .u8))] [.c (.int .i64 0), .c .nil] (
     .prim (.bin .lss) [.v 7, .v 6] <|
     .ite (.v 9) (
      .prim .get [.v 5, .v 7] <|
      .prim (.clone 1) [.v 10] <|
      .mkL (.sl (.int .u8)) [.v 11] <|
      .prim (.app 24) [.v 8, .v 12] <|
      .prim (.bin .add) [.v 7, .c (.int .i64 1)] <|
      .jmp 0 true [.v 14, .v 13]) (
      .jmp 1 false [.v 8]))) 1 <|
   .jmp 0 false [.v 7]) 1 <|
  .mkS tsPool [.v 5] <|
  .jmp 0 false [.v 6, .c (.int .i64 1)]) (
  .sub0 [.sl (.sl (.int .u8))] (
   .prim (.fld 0) [.v 0] <|
   .prim .len [.v 5] <|
   .sub0 [.sl (.sl (.int .u8))] (
    .loop [.int .i64, .sl (.sl (.int .u8))] [.c (.int .i64 0), .c .nil] (
     .prim (.bin .lss) [.v 7, .v 6] <|
     .ite (.v 9) (
      .prim .get [.v 5, .v 7] <|
      .prim (.clone 1) [.v 10] <|
      .mkL (.sl (.int .u8)) [.v 11] <|
      .prim (.app 24) [.v 8, .v 12] <|
      .prim (.bin .add) [.v 7, .c (.int .i64 1)] <|
      .jmp 0 true [.v 14, .v 13]) (
      .jmp 1 false [.v 8]))) 1 <|
   .jmp 0 false [.v 7]) 1 <|
  .sub0 [.int .i64, .sl (.sl (.int .u8))] (
   .mkS tsPool [.v 5] <|
   .call 32 F_pool_Room [.v 6] 1 <|
   .prim (.bin .eql) [.v 7, .c (.int .i64 0)] <|
   .ite (.v 8) (
    .jmp 0 false [.c (.int .i64 6), .v 5]) (
    .prim (.clone 1) [.v 2] <|
    .mkL (.sl (.int .u8)) [.v 9] <|
    .prim (.app 24) [.v 5, .v 10] <|
    .jmp 0 false [.c (.int .i64 0), .v 11])) 2 <|
  .mkS tsPool [.v 7] <|
  .jmp 0 false [.v 8, .v 6])
theorem a_pool_Send : treeOf cx 12 30 = some A_pool_Send.erase := by kernel_rfl
theorem k_pool_Send : FnOk cx 12 noC 30 F_pool_Send := fn_ok (t := A_pool_Send) a_pool_Send (fun _ => rfl) (ok_of [(84, F_frame_Put), (51, F_pool_Right), (32, F_pool_Room)] (by kernel_rfl) (.cons k_frame_Put (.cons k_pool_Right (.cons k_pool_Room .nil)))) (fun x => by kernel_rfl)

/-! 31: backstay/pool.Take -/
noncomputable def pool_Take (p0 : Pool) (p1 : Int) : Option (Pool × Msg × Int) :=
  (pool_Drop p0 p1).bind fun v2 =>
  if !decide (v2.2 = (0 : Int)) then
    some ((v2.1, (Msg.mk (0 : Int) (0 : Int) (0 : Int) (0 : Int) (0 : Int) (0 : Int) false (0 : Int) (0 : Int)), v2.2))
  else
    (getO (Pool.Frames p0) p1).bind fun v6 =>
    (frame_Read v6).bind fun v7 =>
    some ((v2.1, v7.1, v7.2))
noncomputable def F_pool_Take : FnT := ⟨[tPool, .int .i64], [tPool, tMsg, .int .i64], fun x => pool_Take x.1 x.2⟩
noncomputable def A_pool_Take : TA :=
 .call 44 F_pool_Drop [.v 0, .v 1] 2 <|
 .prim (.bin .neq) [.v 3, .c (.int .i64 0)] <|
 .ite (.v 4) (
  .jmp 0 false [.v 2, .c (.agg [(.int .i64 0), (.int .i64 0), (.int .i64 0), (.int .i64 0), (.int .i64 0), (.int .i64 0), (.bool false), (.int .u32 0), (.int .u32 0)]), .v 3]) (
  .prim (.fld 0) [.v 0] <|
  .prim .get [.v 5, .v 1] <|
  .call 87 F_frame_Read [.v 6] 2 <|
  .jmp 0 false [.v 2, .v 7, .v 8])
theorem a_pool_Take : treeOf cx 12 31 = some A_pool_Take.erase := by kernel_rfl
theorem k_pool_Take : FnOk cx 12 noC 31 F_pool_Take := fn_ok (t := A_pool_Take) a_pool_Take (fun _ => rfl) (ok_of [(44, F_pool_Drop), (87, F_frame_Read)] (by kernel_rfl) (.cons k_pool_Drop (.cons k_frame_Read .nil))) (fun x => by kernel_rfl)

/-! 29: backstay/backstaylaw06.awake -/
def l06_awake : Bool := true
def F_l06_awake : PnT := ⟨[], [.bool], fun _ => l06_awake⟩
theorem k_l06_awake : FnOk cx 12 noC 29 F_l06_awake.fn := fun ds x r hx hr => by
  have hx : ds = [] := hx
  subst hx
  exact ⟨[.bool true], call_now 100 12 (by kernel_rfl), .bool true, rfl, congrArg D.bool (Option.some.inj hr)⟩

end Go.Proofs.Ytihchahfnhoapaa
