/- The types of this cut, and its functions as functions of plain typed data. Printed by a program of this claim's prover; each is checked here to be what the executor makes of the code. -/
import Derived.Test.YtihchahfnhoapaaProg
import Derived.Test.YtihchahfnhoapaaLim
import Derived.KernelRfl
set_option linter.unusedVariables false
set_option maxRecDepth 100000
namespace Go.Proofs.Ytihchahfnhoapaa
open Go.SX
abbrev tsIns : List Ty := [.int .i64, .int .i64, .int .i64, .int .i64, .int .u32]
abbrev tIns : Ty := .st tsIns
abbrev Ins : Type := Int × Int × Int × Int × Int

abbrev tsDeed : List Ty := [.int .i64, .int .i64, .int .i64, .int .u32, .int .u32]
abbrev tDeed : Ty := .st tsDeed
abbrev Deed : Type := Int × Int × Int × Int × Int

abbrev tsMsg : List Ty := [.int .i64, .int .i64, .int .i64, .int .i64, .int .i64, .int .i64, .bool, .int .u32, .int .u32]
abbrev tMsg : Ty := .st tsMsg
abbrev Msg : Type := Int × Int × Int × Int × Int × Int × Bool × Int × Int

abbrev tsWant : List Ty := [.int .i64, .int .i64, .int .u32, .int .u32]
abbrev tWant : Ty := .st tsWant
abbrev Want : Type := Int × Int × Int × Int

abbrev tsWait : List Ty := [.int .i64, .bool, .bool, .bool, .bool, .bool, .int .i64, .int .i64, .int .u32]
abbrev tWait : Ty := .st tsWait
abbrev Wait : Type := Int × Bool × Bool × Bool × Bool × Bool × Int × Int × Int
def Wait.mk (Line : Int) (Write : Bool) (Back : Bool) (Came : Bool) (Own : Bool) (Keep : Bool) (Need : Int) (Got : Int) (Val : Int) : Wait := (Line, Write, Back, Came, Own, Keep, Need, Got, Val)
def Wait.Line (x : Wait) : Int := x.1
def Wait.Write (x : Wait) : Bool := x.2.1
def Wait.Back (x : Wait) : Bool := x.2.2.1
def Wait.Came (x : Wait) : Bool := x.2.2.2.1
def Wait.Own (x : Wait) : Bool := x.2.2.2.2.1
def Wait.Keep (x : Wait) : Bool := x.2.2.2.2.2.1
def Wait.Need (x : Wait) : Int := x.2.2.2.2.2.2.1
def Wait.Got (x : Wait) : Int := x.2.2.2.2.2.2.2.1
def Wait.Val (x : Wait) : Int := x.2.2.2.2.2.2.2.2
@[simp] theorem Wait.Line_mk (Line : Int) (Write : Bool) (Back : Bool) (Came : Bool) (Own : Bool) (Keep : Bool) (Need : Int) (Got : Int) (Val : Int) : Wait.Line (Wait.mk Line Write Back Came Own Keep Need Got Val) = Line := rfl
@[simp] theorem Wait.Write_mk (Line : Int) (Write : Bool) (Back : Bool) (Came : Bool) (Own : Bool) (Keep : Bool) (Need : Int) (Got : Int) (Val : Int) : Wait.Write (Wait.mk Line Write Back Came Own Keep Need Got Val) = Write := rfl
@[simp] theorem Wait.Back_mk (Line : Int) (Write : Bool) (Back : Bool) (Came : Bool) (Own : Bool) (Keep : Bool) (Need : Int) (Got : Int) (Val : Int) : Wait.Back (Wait.mk Line Write Back Came Own Keep Need Got Val) = Back := rfl
@[simp] theorem Wait.Came_mk (Line : Int) (Write : Bool) (Back : Bool) (Came : Bool) (Own : Bool) (Keep : Bool) (Need : Int) (Got : Int) (Val : Int) : Wait.Came (Wait.mk Line Write Back Came Own Keep Need Got Val) = Came := rfl
@[simp] theorem Wait.Own_mk (Line : Int) (Write : Bool) (Back : Bool) (Came : Bool) (Own : Bool) (Keep : Bool) (Need : Int) (Got : Int) (Val : Int) : Wait.Own (Wait.mk Line Write Back Came Own Keep Need Got Val) = Own := rfl
@[simp] theorem Wait.Keep_mk (Line : Int) (Write : Bool) (Back : Bool) (Came : Bool) (Own : Bool) (Keep : Bool) (Need : Int) (Got : Int) (Val : Int) : Wait.Keep (Wait.mk Line Write Back Came Own Keep Need Got Val) = Keep := rfl
@[simp] theorem Wait.Need_mk (Line : Int) (Write : Bool) (Back : Bool) (Came : Bool) (Own : Bool) (Keep : Bool) (Need : Int) (Got : Int) (Val : Int) : Wait.Need (Wait.mk Line Write Back Came Own Keep Need Got Val) = Need := rfl
@[simp] theorem Wait.Got_mk (Line : Int) (Write : Bool) (Back : Bool) (Came : Bool) (Own : Bool) (Keep : Bool) (Need : Int) (Got : Int) (Val : Int) : Wait.Got (Wait.mk Line Write Back Came Own Keep Need Got Val) = Got := rfl
@[simp] theorem Wait.Val_mk (Line : Int) (Write : Bool) (Back : Bool) (Came : Bool) (Own : Bool) (Keep : Bool) (Need : Int) (Got : Int) (Val : Int) : Wait.Val (Wait.mk Line Write Back Came Own Keep Need Got Val) = Val := rfl
@[simp] theorem Wait.eta (x : Wait) : Wait.mk (Wait.Line x) (Wait.Write x) (Wait.Back x) (Wait.Came x) (Wait.Own x) (Wait.Keep x) (Wait.Need x) (Wait.Got x) (Wait.Val x) = x := rfl

abbrev tsruntime_boundsError : List Ty := [.int .i64, .int .i64, .bool, .int .u8]
abbrev truntime_boundsError : Ty := .st tsruntime_boundsError
abbrev runtime_boundsError : Type := Int × Int × Bool × Int

abbrev tsTold : List Ty := [.int .i64, .int .u32]
abbrev tTold : Ty := .st tsTold
abbrev Told : Type := Int × Int

abbrev tsruntime_errorAddressString : List Ty := [.str, .int .u64]
abbrev truntime_errorAddressString : Ty := .st tsruntime_errorAddressString
abbrev runtime_errorAddressString : Type := (List Int) × Int

abbrev tsl06_Do : List Ty := [.int .u8, tMsg, .int .u8, .int .u8]
abbrev tl06_Do : Ty := .st tsl06_Do
abbrev l06_Do : Type := Int × Ytihchahfnhoapaa.Msg × Int × Int

abbrev tsEntry : List Ty := [.int .i64, .sl .bool]
abbrev tEntry : Ty := .st tsEntry
abbrev Entry : Type := Int × (List Bool)
def Entry.mk (Owner : Int) (Share : List Bool) : Entry := (Owner, Share)
def Entry.Owner (x : Entry) : Int := x.1
def Entry.Share (x : Entry) : List Bool := x.2
@[simp] theorem Entry.Owner_mk (Owner : Int) (Share : List Bool) : Entry.Owner (Entry.mk Owner Share) = Owner := rfl
@[simp] theorem Entry.Share_mk (Owner : Int) (Share : List Bool) : Entry.Share (Entry.mk Owner Share) = Share := rfl
@[simp] theorem Entry.eta (x : Entry) : Entry.mk (Entry.Owner x) (Entry.Share x) = x := rfl

abbrev tsCore : List Ty := [.arr 8 (.int .u32), .int .i64, .bool]
abbrev tCore : Ty := .st tsCore
abbrev Core : Type := (List Int) × Int × Bool

abbrev tsPool : List Ty := [.sl (.sl (.int .u8))]
abbrev tPool : Ty := .st tsPool
abbrev Pool : Type := List (List Int)
def Pool.mk (Frames : List (List Int)) : Pool := Frames
def Pool.Frames (x : Pool) : List (List Int) := x
@[simp] theorem Pool.Frames_mk (Frames : List (List Int)) : Pool.Frames (Pool.mk Frames) = Frames := rfl
@[simp] theorem Pool.eta (x : Pool) : Pool.mk (Pool.Frames x) = x := rfl

abbrev tsAtom : List Ty := [.sl (.int .u32), .sl tCore, .sl tTold]
abbrev tAtom : Ty := .st tsAtom
abbrev Atom : Type := (List Int) × (List Ytihchahfnhoapaa.Core) × (List Ytihchahfnhoapaa.Told)

abbrev tsProto : List Ty := [.sl (.sl (.int .i64)), .sl (.sl (.int .u32)), .sl tWait, .sl (.int .u32), .sl tEntry, .sl (.int .i64), tPool]
abbrev tProto : Ty := .st tsProto
abbrev Proto : Type := (List (List Int)) × (List (List Int)) × (List Ytihchahfnhoapaa.Wait) × (List Int) × (List Ytihchahfnhoapaa.Entry) × (List Int) × Ytihchahfnhoapaa.Pool
def Proto.mk (State : List (List Int)) (Val : List (List Int)) (Wait : List Ytihchahfnhoapaa.Wait) (Home : List Int) (Dir : List Ytihchahfnhoapaa.Entry) (Busy : List Int) (Pool : Ytihchahfnhoapaa.Pool) : Proto := (State, Val, Wait, Home, Dir, Busy, Pool)
def Proto.State (x : Proto) : List (List Int) := x.1
def Proto.Val (x : Proto) : List (List Int) := x.2.1
def Proto.Wait (x : Proto) : List Ytihchahfnhoapaa.Wait := x.2.2.1
def Proto.Home (x : Proto) : List Int := x.2.2.2.1
def Proto.Dir (x : Proto) : List Ytihchahfnhoapaa.Entry := x.2.2.2.2.1
def Proto.Busy (x : Proto) : List Int := x.2.2.2.2.2.1
def Proto.Pool (x : Proto) : Ytihchahfnhoapaa.Pool := x.2.2.2.2.2.2
@[simp] theorem Proto.State_mk (State : List (List Int)) (Val : List (List Int)) (Wait : List Ytihchahfnhoapaa.Wait) (Home : List Int) (Dir : List Ytihchahfnhoapaa.Entry) (Busy : List Int) (Pool : Ytihchahfnhoapaa.Pool) : Proto.State (Proto.mk State Val Wait Home Dir Busy Pool) = State := rfl
@[simp] theorem Proto.Val_mk (State : List (List Int)) (Val : List (List Int)) (Wait : List Ytihchahfnhoapaa.Wait) (Home : List Int) (Dir : List Ytihchahfnhoapaa.Entry) (Busy : List Int) (Pool : Ytihchahfnhoapaa.Pool) : Proto.Val (Proto.mk State Val Wait Home Dir Busy Pool) = Val := rfl
@[simp] theorem Proto.Wait_mk (State : List (List Int)) (Val : List (List Int)) (Wait : List Ytihchahfnhoapaa.Wait) (Home : List Int) (Dir : List Ytihchahfnhoapaa.Entry) (Busy : List Int) (Pool : Ytihchahfnhoapaa.Pool) : Proto.Wait (Proto.mk State Val Wait Home Dir Busy Pool) = Wait := rfl
@[simp] theorem Proto.Home_mk (State : List (List Int)) (Val : List (List Int)) (Wait : List Ytihchahfnhoapaa.Wait) (Home : List Int) (Dir : List Ytihchahfnhoapaa.Entry) (Busy : List Int) (Pool : Ytihchahfnhoapaa.Pool) : Proto.Home (Proto.mk State Val Wait Home Dir Busy Pool) = Home := rfl
@[simp] theorem Proto.Dir_mk (State : List (List Int)) (Val : List (List Int)) (Wait : List Ytihchahfnhoapaa.Wait) (Home : List Int) (Dir : List Ytihchahfnhoapaa.Entry) (Busy : List Int) (Pool : Ytihchahfnhoapaa.Pool) : Proto.Dir (Proto.mk State Val Wait Home Dir Busy Pool) = Dir := rfl
@[simp] theorem Proto.Busy_mk (State : List (List Int)) (Val : List (List Int)) (Wait : List Ytihchahfnhoapaa.Wait) (Home : List Int) (Dir : List Ytihchahfnhoapaa.Entry) (Busy : List Int) (Pool : Ytihchahfnhoapaa.Pool) : Proto.Busy (Proto.mk State Val Wait Home Dir Busy Pool) = Busy := rfl
@[simp] theorem Proto.Pool_mk (State : List (List Int)) (Val : List (List Int)) (Wait : List Ytihchahfnhoapaa.Wait) (Home : List Int) (Dir : List Ytihchahfnhoapaa.Entry) (Busy : List Int) (Pool : Ytihchahfnhoapaa.Pool) : Proto.Pool (Proto.mk State Val Wait Home Dir Busy Pool) = Pool := rfl
@[simp] theorem Proto.eta (x : Proto) : Proto.mk (Proto.State x) (Proto.Val x) (Proto.Wait x) (Proto.Home x) (Proto.Dir x) (Proto.Busy x) (Proto.Pool x) = x := rfl

def tys : List Ty := [.no, .no, .int .i64, .int .i64, .bool, .int .u8, .int .u8, truntime_boundsError, truntime_boundsError, .str, .str, .str, .int .u64, truntime_errorAddressString, truntime_errorAddressString, .no, .no, .no, .no, .no, .no, .int .i32, .sl (.sl (.int .i64)), .sl (.sl (.int .u32)), .sl tWait, .sl (.int .u32), .sl tEntry, .sl (.int .i64), .sl (.sl (.int .u8)), tPool, tPool, tProto, tProto, .no, .no, .no, .no, .no, .int .u32, .int .i64, .no, .no, .sl tMsg, .no, .no, tMsg, tMsg, .no, .no, .no, .no, .sl (.sl tIns), .no, .sl tCore, .sl tTold, tAtom, tAtom, .no, .no, .no, .no, .no, .no, .no, .no, .no, .sl (.int .u8), .no, .no, .no, .no, .no, .no, .no, .no, .no, .no, .sl tl06_Do, .sl (.arr 19 (.int .u8)), tl06_Do, tl06_Do, .no, .arr 19 (.int .u8), .int .u64, .no, .no, .no, .no, .no, .arr 8 (.int .u32), tCore, tCore, .no, tWant, tWant, .no, .sl tIns, .no, .no, .no, .no, .no, .no, .sl tDeed, tDeed, tDeed, .no, .no, .no, .no, .no, .no, .no, .no, .sl .bool, tEntry, tEntry, .no, .no, .no, .no, .no, tWait, tWait, .no, .no, .no, .no, .no, .no, .no, tIns, tIns, tTold, tTold, .no, .no, .no, .no, .no, .no, .no, .no, .no, .no, .no, .no, .no, .no, .no, .arr 5 (.int .i64), .no, .no, .no, .no, .no, .no, .no, .no, .no, .no, .no, .no, .no, .no, .no, .no, .no, .no, .no, .no, .no, .no, .no, .no, .no, .no, .no, .no, .no, .no, .no, .no, .no, .no, .int .u64, .no, .no, .no, .no, .no, .no, .no, .arr 4 (.int .u8), .no, .no, .no, .no, .no, .sl (.sl tDeed), .no, .no, .no, .no, .no, .no, .no, .no, .no, .no, .no, .no, .no, .no, .no, .no, .no, .no, .no, .no, .no, .int .u8, .int .u8, .no, .no, .int .i32, .int .i32, .no, .no, .no]
noncomputable def cx : Cx := { P := Try.prog, ty := tys, own := [], inl := [53, 85, 86, 100, 103, 107, 108, 113, 114, 128, 143, 144, 147, 149, 154, 163, 168], keepL := [], absL := [53, 84, 85, 95, 103, 113, 127], heads := [(4, [(7, 16645305305093111926, ⟨8, 0, mkSlots 65 0 [(1, .d (.int .i64) (.v 1)), (2, .p tProto tProto 0 []), (4, .d .bool (.c (.bool false))), (5, .d (.sl (.int .i64)) (.v 6)), (6, .d (.int .i64) (.v 7))], [.box tProto (.d tProto (.v 0))]⟩),
    (11, 16645305305093112310, ⟨13, 0, mkSlots 65 0 [(1, .d (.int .i64) (.v 1)), (2, .p tProto tProto 0 []), (4, .d .bool (.c (.bool false))), (5, .d (.sl (.int .i64)) (.v 6)), (6, .d (.int .i64) (.v 7)), (7, .d .bool (.v 11)), (8, .d (.int .i64) (.v 12))], [.box tProto (.d tProto (.v 0))]⟩)]),
  (16, [(4, 523449139254, ⟨5, 0, mkSlots 40 0 [(1, .d (.int .i64) (.v 1)), (2, .p tProto tProto 0 []), (4, .d .bool (.c (.bool false))), (5, .d (.int .i64) (.v 4))], [.box tProto (.d tProto (.v 0))]⟩),
    (8, 523449139318, ⟨9, 0, mkSlots 40 0 [(1, .d (.int .i64) (.v 1)), (2, .p tProto tProto 0 []), (4, .d .bool (.c (.bool false))), (5, .d (.int .i64) (.v 4)), (6, .d (.int .i64) (.v 8))], [.box tProto (.d tProto (.v 0))]⟩)]),
  (18, [(4, 2251786660347958, ⟨5, 0, mkSlots 52 0 [(1, .d (.int .i64) (.v 1)), (2, .p tProto tProto 0 []), (4, .d .bool (.c (.bool false))), (5, .d (.int .i64) (.v 4))], [.box tProto (.d tProto (.v 0))]⟩),
    (8, 2251786660348022, ⟨9, 0, mkSlots 52 0 [(1, .d (.int .i64) (.v 1)), (2, .p tProto tProto 0 []), (4, .d .bool (.c (.bool false))), (5, .d (.int .i64) (.v 4)), (6, .d (.int .i64) (.v 8))], [.box tProto (.d tProto (.v 0))]⟩)]),
  (81, [(6, 95216831761137083744415218616928460264924859192049726, ⟨7, 0, mkSlots 177 0 [(1, .p tProto tProto 0 []), (2, .d .bool (.c (.bool false))), (3, .d (.int .i64) (.v 2)), (4, .d (.int .i64) (.v 4)), (5, .d (.int .i64) (.v 6))], [.box tProto (.d tProto (.v 0))]⟩),
    (11, 95216831761137083744415218616928460264924859192049854, ⟨12, 0, mkSlots 177 0 [(1, .p tProto tProto 0 []), (2, .d .bool (.c (.bool false))), (3, .d (.int .i64) (.v 2)), (4, .d (.int .i64) (.v 4)), (5, .d (.int .i64) (.v 6)), (7, .d (.int .i64) (.v 11))], [.box tProto (.d tProto (.v 0))]⟩),
    (6, 95216831672108325120970066851465838730584005174886686, ⟨7, 0, mkSlots 177 0 [(1, .p tProto tProto 0 []), (2, .d .bool (.c (.bool false))), (3, .d (.int .i64) (.v 2)), (4, .d (.int .i64) (.v 4)), (8, .d (.int .i64) (.v 6))], [.box tProto (.d tProto (.v 0))]⟩)])] }
theorem tyOk : TysOk cx := chkTys_ok (by kernel_rfl)
theorem mixed : Try.prog.follows .mixedOrders = true := by kernel_rfl
def noC : FuncId → List D → Option (List D) := fun _ _ => none
theorem noC_ok : CallsOk cx noC := fun _ _ _ _ _ _ _ h => by cases h
theorem call_now {f : FuncId} {ds rs : List D} (k d : Nat) (h : callF cx k 12 noC d f ds = some rs) : callL cx 12 noC f ds = some rs := (callL_some cx 12 noC).2 ⟨k, d, h⟩

/-! 25: backstay/backstayref09.Ints -/
noncomputable def r09_Ints_L1 (x0 : List Int) (x1 : List Int) (s : Int) : Option (Int ⊕ Unit ⊕ Bool) :=
  if decide (s < (List.length x0 : Int)) then
    (getO x0 s).bind fun v8 =>
    (getO x1 s).bind fun v9 =>
    if !decide (v8 = v9) then
      some (Sum.inr (Sum.inr (false)))
    else
      some (Sum.inl (w64 (s + (1 : Int))))
  else
    some (Sum.inr (Sum.inl ()))
noncomputable def r09_Ints (p0 : List Int) (p1 : List Int) : Option Bool :=
  if !decide ((List.length p0 : Int) = (List.length p1 : Int)) then
    some (false)
  else
    orExit (
      loopD (r09_Ints_L1 p0 p1) (0 : Int) : Option (Unit ⊕ Bool)) fun v5 =>
    some (true)
noncomputable def F_r09_Ints : FnT := ⟨[.sl (.int .i64), .sl (.int .i64)], [.bool], fun x => r09_Ints x.1 x.2⟩
noncomputable def A_r09_Ints : TA :=
 .prim .len [.v 0] <|
 .prim .len [.v 1] <|
 .prim (.bin .neq) [.v 2, .v 3] <|
 .ite (.v 4) (
  .jmp 0 false [.c (.bool false)]) (
  .sub1 [] (
   .loop [.int .i64] [.c (.int .i64 0)] (
    .prim .len [.v 0] <|
    .prim (.bin .lss) [.v 5, .v 6] <|
    .ite (.v 7) (
     .prim .get [.v 0, .v 5] <|
     .prim .get [.v 1, .v 5] <|
     .prim (.bin .neq) [.v 8, .v 9] <|
     .ite (.v 10) (
      .jmp 2 false [.c (.bool false)]) (
      .prim (.bin .add) [.v 5, .c (.int .i64 1)] <|
      .jmp 0 true [.v 11])) (
     .jmp 1 false []))) 0 <|
  .jmp 0 false [.c (.bool true)])
theorem a_r09_Ints : treeOf cx 12 25 = some A_r09_Ints.erase := by kernel_rfl
theorem k_r09_Ints : FnOk cx 12 noC 25 F_r09_Ints := fn_ok (t := A_r09_Ints) a_r09_Ints (fun _ => rfl) (ok_of [] (by kernel_rfl) .nil) (fun x => by kernel_rfl)

/-! 40: backstay/backstayref06.Short -/
noncomputable def r06_Short_L1 (x0 : Pool) (s : Int) : Option (Int ⊕ Unit ⊕ Bool) :=
  if decide (s < (List.length (Pool.Frames x0) : Int)) then
    (getO (Pool.Frames x0) s).bind fun v9 =>
    if decide ((100 : Int) < (List.length v9 : Int)) then
      some (Sum.inr (Sum.inr (false)))
    else
      some (Sum.inl (w64 (s + (1 : Int))))
  else
    some (Sum.inr (Sum.inl ()))
noncomputable def r06_Short (p0 : Pool) : Option Bool :=
  if decide ((80 : Int) < (List.length (Pool.Frames p0) : Int)) then
    some (false)
  else
    orExit (
      loopD (r06_Short_L1 p0) (0 : Int) : Option (Unit ⊕ Bool)) fun v4 =>
    some (true)
noncomputable def F_r06_Short : FnT := ⟨[tPool], [.bool], fun x => r06_Short x⟩
noncomputable def A_r06_Short : TA :=
 .prim (.fld 0) [.v 0] <|
 .prim .len [.v 1] <|
 .prim (.bin .gtr) [.v 2, .c (.int .i64 80)] <|
 .ite (.v 3) (
  .jmp 0 false [.c (.bool false)]) (
  .sub1 [] (
   .loop [.int .i64] [.c (.int .i64 0)] (
    .prim (.fld 0) [.v 0] <|
    .prim .len [.v 5] <|
    .prim (.bin .lss) [.v 4, .v 6] <|
    .ite (.v 7) (
     .prim (.fld 0) [.v 0] <|
     .prim .get [.v 8, .v 4] <|
     .prim .len [.v 9] <|
     .prim (.bin .gtr) [.v 10, .c (.int .i64 100)] <|
     .ite (.v 11) (
      .jmp 2 false [.c (.bool false)]) (
      .prim (.bin .add) [.v 4, .c (.int .i64 1)] <|
      .jmp 0 true [.v 12])) (
     .jmp 1 false []))) 0 <|
  .jmp 0 false [.c (.bool true)])
theorem a_r06_Short : treeOf cx 12 40 = some A_r06_Short.erase := by kernel_rfl
theorem k_r06_Short : FnOk cx 12 noC 40 F_r06_Short := fn_ok (t := A_r06_Short) a_r06_Short (fun _ => rfl) (ok_of [] (by kernel_rfl) .nil) (fun x => by kernel_rfl)

/-! 50: backstay/backstayref06.Right -/
noncomputable def r06_Right_L1 (x0 : Pool) (s : Int) : Option (Int ⊕ Unit ⊕ Bool) :=
  if decide (s < (List.length (Pool.Frames x0) : Int)) then
    (
      if decide ((63 : Int) < s) then
        some (true)
      else
        (getO (Pool.Frames x0) s).bind fun v7 =>
        some ((!decide ((List.length v7 : Int) = (19 : Int)))) : Option Bool).bind fun v5 =>
    if v5 then
      some (Sum.inr (Sum.inr (false)))
    else
      some (Sum.inl (w64 (s + (1 : Int))))
  else
    some (Sum.inr (Sum.inl ()))
noncomputable def r06_Right (p0 : Pool) : Option Bool :=
  orExit (
    loopD (r06_Right_L1 p0) (0 : Int) : Option (Unit ⊕ Bool)) fun v1 =>
  some (true)
noncomputable def F_r06_Right : FnT := ⟨[tPool], [.bool], fun x => r06_Right x⟩
noncomputable def A_r06_Right : TA :=
 .sub1 [] (
  .loop [.int .i64] [.c (.int .i64 0)] (
   .prim (.fld 0) [.v 0] <|
   .prim .len [.v 2] <|
   .prim (.bin .lss) [.v 1, .v 3] <|
   .ite (.v 4) (
    .sub0 [.bool] (
     .prim (.bin .gtr) [.v 1, .c (.int .i64 63)] <|
     .ite (.v 5) (
      .jmp 0 false [.c (.bool true)]) (
      .prim (.fld 0) [.v 0] <|
      .prim .get [.v 6, .v 1] <|
      .prim .len [.v 7] <|
      .prim (.bin .neq) [.v 8, .c (.int .i64 19)] <|
      .jmp 0 false [.v 9])) 1 <|
    .ite (.v 5) (
     .jmp 2 false [.c (.bool false)]) (
     .prim (.bin .add) [.v 1, .c (.int .i64 1)] <|
     .jmp 0 true [.v 6])) (
    .jmp 1 false []))) 0 <|
 .jmp 0 false [.c (.bool true)]
theorem a_r06_Right : treeOf cx 12 50 = some A_r06_Right.erase := by kernel_rfl
theorem k_r06_Right : FnOk cx 12 noC 50 F_r06_Right := fn_ok (t := A_r06_Right) a_r06_Right (fun _ => rfl) (ok_of [] (by kernel_rfl) .nil) (fun x => by kernel_rfl)

/-! 76: backstay/watch.fits -/
noncomputable def watch_fits (p0 : Proto) (p1 : Int) (p2 : Int) : Option Bool :=
  (getO (Proto.Dir p0) p2).bind fun v4 =>
  (getO (Proto.State p0) p1).bind fun v6 =>
  (getO v6 p2).bind fun v7 =>
  (getO (Proto.Home p0) p2).bind fun v9 =>
  (getO (Proto.Val p0) p1).bind fun v11 =>
  (getO v11 p2).bind fun v12 =>
  let v13 : Bool := decide (v9 = v12)
  if decide (v7 = (0 : Int)) then
    some ((!decide ((Entry.Owner v4) = (w64 (p1 + (1 : Int))))))
  else
    if decide (v7 = (1 : Int)) then
      (
        if !decide ((Entry.Owner v4) = (w64 (p1 + (1 : Int)))) then
          (getO (Entry.Share v4) p1).bind fun v20 =>
          if v20 then
            if decide ((0 : Int) < (Entry.Owner v4)) then
              some (true)
            else
              some (v13)
          else
            some (false)
        else
          some (false) : Option Bool).bind fun v16 =>
      some (v16)
    else
      if decide (v7 = (2 : Int)) then
        some (((decide ((Entry.Owner v4) = (w64 (p1 + (1 : Int))))) && v13))
      else
        some ((decide ((Entry.Owner v4) = (w64 (p1 + (1 : Int))))))
noncomputable def F_watch_fits : FnT := ⟨[tProto, .int .i64, .int .i64], [.bool], fun x => watch_fits x.1 x.2.1 x.2.2⟩
noncomputable def A_watch_fits : TA :=
 .prim (.fld 4) [.v 0] <|
 .prim .get [.v 3, .v 2] <|
 .prim (.fld 0) [.v 0] <|
 .prim .get [.v 5, .v 1] <|
 .prim .get [.v 6, .v 2] <|
 .prim (.fld 3) [.v 0] <|
 .prim .get [.v 8, .v 2] <|
 .prim (.fld 1) [.v 0] <|
 .prim .get [.v 10, .v 1] <|
 .prim .get [.v 11, .v 2] <|
 .prim (.bin .eql) [.v 9, .v 12] <|
 .prim (.bin .eql) [.v 7, .c (.int .i64 0)] <|
 .ite (.v 14) (
  .prim (.fld 0) [.v 4] <|
  .prim (.bin .add) [.v 1, .c (.int .i64 1)] <|
  .prim (.bin .neq) [.v 15, .v 16] <|
  .jmp 0 false [.v 17]) (
  .prim (.bin .eql) [.v 7, .c (.int .i64 1)] <|
  .ite (.v 15) (
   .sub0 [.bool] (
    .prim (.fld 0) [.v 4] <|
    .prim (.bin .add) [.v 1, .c (.int .i64 1)] <|
    .prim (.bin .neq) [.v 16, .v 17] <|
    .ite (.v 18) (
     .prim (.fld 1) [.v 4] <|
     .prim .get [.v 19, .v 1] <|
     .ite (.v 20) (
      .prim (.fld 0) [.v 4] <|
      .prim (.bin .gtr) [.v 21, .c (.int .i64 0)] <|
      .ite (.v 22) (
       .jmp 0 false [.c (.bool true)]) (
       .jmp 0 false [.v 13])) (
      .jmp 0 false [.c (.bool false)])) (
     .jmp 0 false [.c (.bool false)])) 1 <|
   .jmp 0 false [.v 16]) (
   .prim (.bin .eql) [.v 7, .c (.int .i64 2)] <|
   .ite (.v 16) (
    .subp [.bool] (
     .prim (.fld 0) [.v 4] <|
     .prim (.bin .add) [.v 1, .c (.int .i64 1)] <|
     .prim (.bin .eql) [.v 17, .v 18] <|
     .ite (.v 19) (
      .jmp 0 false [.v 13]) (
      .jmp 0 false [.c (.bool false)])) 1 <|
    .jmp 0 false [.v 17]) (
    .prim (.fld 0) [.v 4] <|
    .prim (.bin .add) [.v 1, .c (.int .i64 1)] <|
    .prim (.bin .eql) [.v 17, .v 18] <|
    .jmp 0 false [.v 19])))
theorem a_watch_fits : treeOf cx 12 76 = some A_watch_fits.erase := by kernel_rfl
theorem k_watch_fits : FnOk cx 12 noC 76 F_watch_fits := fn_ok (t := A_watch_fits) a_watch_fits (fun _ => rfl) (ok_of [] (by kernel_rfl) .nil) (fun x => by kernel_rfl)

/-! 79: backstay/watch.Calm$1 -/
def watch_Calm_1 (p0 : Wait) : Bool :=
  decide ((0 : Int) < (Wait.Line p0))
def F_watch_Calm_1 : PnT := ⟨[tWait], [.bool], fun x => watch_Calm_1 x⟩
def A_watch_Calm_1 : TA :=
 .prim (.fld 0) [.v 0] <|
 .prim (.bin .gtr) [.v 1, .c (.int .i64 0)] <|
 .jmp 0 false [.v 2]
theorem a_watch_Calm_1 : treeOf cx 12 79 = some A_watch_Calm_1.erase := by kernel_rfl
theorem k_watch_Calm_1 : FnOk cx 12 noC 79 F_watch_Calm_1.fn := pn_ok (t := A_watch_Calm_1) a_watch_Calm_1 (fun _ => rfl) (ok_of [] (by kernel_rfl) .nil) (fun x => by kernel_rfl)

/-! 80: backstay/watch.Calm$2 -/
def watch_Calm_2 (p0 : Int) : Bool :=
  decide ((0 : Int) < p0)
def F_watch_Calm_2 : PnT := ⟨[.int .i64], [.bool], fun x => watch_Calm_2 x⟩
def A_watch_Calm_2 : TA :=
 .prim (.bin .gtr) [.v 0, .c (.int .i64 0)] <|
 .jmp 0 false [.v 1]
theorem a_watch_Calm_2 : treeOf cx 12 80 = some A_watch_Calm_2.erase := by kernel_rfl
theorem k_watch_Calm_2 : FnOk cx 12 noC 80 F_watch_Calm_2.fn := pn_ok (t := A_watch_Calm_2) a_watch_Calm_2 (fun _ => rfl) (ok_of [] (by kernel_rfl) .nil) (fun x => by kernel_rfl)

/-! 83: backstay/proto.has -/
noncomputable def proto_has (p0 : Proto) (p1 : Int) (p2 : Int) (p3 : Bool) : Option Bool :=
  (getO (Proto.State p0) p1).bind fun v5 =>
  (getO v5 p2).bind fun v6 =>
  (getO (Proto.Wait p0) p1).bind fun v8 =>
  if decide ((Wait.Line v8) = (w64 (p2 + (1 : Int)))) then
    some (false)
  else
    if p3 then
      some (((decide (v6 = (2 : Int))) || (decide (v6 = (3 : Int)))))
    else
      some ((!decide (v6 = (0 : Int))))
noncomputable def F_proto_has : FnT := ⟨[tProto, .int .i64, .int .i64, .bool], [.bool], fun x => proto_has x.1 x.2.1 x.2.2.1 x.2.2.2⟩
noncomputable def A_proto_has : TA :=
 .prim (.fld 0) [.v 0] <|
 .prim .get [.v 4, .v 1] <|
 .prim .get [.v 5, .v 2] <|
 .prim (.fld 2) [.v 0] <|
 .prim .get [.v 7, .v 1] <|
 .prim (.fld 0) [.v 8] <|
 .prim (.bin .add) [.v 2, .c (.int .i64 1)] <|
 .prim (.bin .eql) [.v 9, .v 10] <|
 .ite (.v 11) (
  .jmp 0 false [.c (.bool false)]) (
  .ite (.v 3) (
   .subp [.bool] (
    .prim (.bin .eql) [.v 6, .c (.int .i64 2)] <|
    .ite (.v 12) (
     .jmp 0 false [.c (.bool true)]) (
     .prim (.bin .eql) [.v 6, .c (.int .i64 3)] <|
     .jmp 0 false [.v 13])) 1 <|
   .jmp 0 false [.v 12]) (
   .prim (.bin .neq) [.v 6, .c (.int .i64 0)] <|
   .jmp 0 false [.v 12]))
theorem a_proto_has : treeOf cx 12 83 = some A_proto_has.erase := by kernel_rfl
theorem k_proto_has : FnOk cx 12 noC 83 F_proto_has := fn_ok (t := A_proto_has) a_proto_has (fun _ => rfl) (ok_of [] (by kernel_rfl) .nil) (fun x => by kernel_rfl)

/-! 102: backstay/pool.Right$1 -/
def pool_Right_1 (p0 : List Int) : Bool :=
  !decide ((List.length p0 : Int) = (19 : Int))
def F_pool_Right_1 : PnT := ⟨[.sl (.int .u8)], [.bool], fun x => pool_Right_1 x⟩
def A_pool_Right_1 : TA :=
 .prim .len [.v 0] <|
 .prim (.bin .neq) [.v 1, .c (.int .i64 19)] <|
 .jmp 0 false [.v 2]
theorem a_pool_Right_1 : treeOf cx 12 102 = some A_pool_Right_1.erase := by kernel_rfl
theorem k_pool_Right_1 : FnOk cx 12 noC 102 F_pool_Right_1.fn := pn_ok (t := A_pool_Right_1) a_pool_Right_1 (fun _ => rfl) (ok_of [] (by kernel_rfl) .nil) (fun x => by kernel_rfl)

/-! 117: backstay/direc.New -/
noncomputable def direc_New (p0 : Int) : Option (Entry × Int) :=
  if (decide (p0 < (1 : Int))) || (decide ((4 : Int) < p0)) then
    some (((Entry.mk (0 : Int) ([] : List Bool)), (1 : Int)))
  else
    (repO false 1 p0 p0).bind fun v2 =>
    some ((Entry.mk (0 : Int) v2, (0 : Int)))
noncomputable def F_direc_New : FnT := ⟨[.int .i64], [tEntry, .int .i64], fun x => direc_New x⟩
noncomputable def A_direc_New : TA :=
 .subp [.bool] (
  .prim (.bin .lss) [.v 0, .c (.int .i64 1)] <|
  .ite (.v 1) (
   .jmp 0 false [.c (.bool true)]) (
   .prim (.bin .gtr) [.v 0, .c (.int .i64 4)] <|
   .jmp 0 false [.v 2])) 1 <|
 .ite (.v 1) (
  .jmp 0 false [.c (.agg [(.int .i64 0), .nil]), .c (.int .i64 1)]) (
  .primH (.rep (.bool false) 1) (.sl .bool) [.v 0, .v 0] <|
  .mkS tsEntry [.c (.int .i64 0), .v 2] <|
  .jmp 0 false [.v 3, .c (.int .i64 0)])
theorem a_direc_New : treeOf cx 12 117 = some A_direc_New.erase := by kernel_rfl
theorem k_direc_New : FnOk cx 12 noC 117 F_direc_New := fn_ok (t := A_direc_New) a_direc_New (fun _ => rfl) (ok_of [] (by kernel_rfl) .nil) (fun x => by kernel_rfl)

/-! 121: backstay/proto.within -/
def proto_within (p0 : Int) (p1 : Int) : Bool :=
  (decide ((0 : Int) ≤ p0)) && (decide (p0 < p1))
def F_proto_within : PnT := ⟨[.int .i64, .int .i64], [.bool], fun x => proto_within x.1 x.2⟩
def A_proto_within : TA :=
 .subp [.bool] (
  .prim (.bin .geq) [.v 0, .c (.int .i64 0)] <|
  .ite (.v 2) (
   .prim (.bin .lss) [.v 0, .v 1] <|
   .jmp 0 false [.v 3]) (
   .jmp 0 false [.c (.bool false)])) 1 <|
 .jmp 0 false [.v 2]
theorem a_proto_within : treeOf cx 12 121 = some A_proto_within.erase := by kernel_rfl
theorem k_proto_within : FnOk cx 12 noC 121 F_proto_within.fn := pn_ok (t := A_proto_within) a_proto_within (fun _ => rfl) (ok_of [] (by kernel_rfl) .nil) (fun x => by kernel_rfl)

/-! 123: backstay/direc.May -/
noncomputable def direc_May (p0 : Entry) (p1 : Int) : Option Bool :=
  if (decide (p1 < (1 : Int))) || ((decide ((4 : Int) < p1)) || ((!decide ((List.length (Entry.Share p0) : Int) = p1)) || ((decide ((Entry.Owner p0) < (0 : Int))) || (decide (p1 < (Entry.Owner p0)))))) then
    some (false)
  else
    (
      if decide ((Entry.Owner p0) = (0 : Int)) then
        some (true)
      else
        (getO (Entry.Share p0) (w64 ((Entry.Owner p0) - (1 : Int)))).bind fun v8 =>
        some ((!v8)) : Option Bool).bind fun v3 =>
    some (v3)
noncomputable def F_direc_May : FnT := ⟨[tEntry, .int .i64], [.bool], fun x => direc_May x.1 x.2⟩
noncomputable def A_direc_May : TA :=
 .subp [.bool] (
  .prim (.bin .lss) [.v 1, .c (.int .i64 1)] <|
  .ite (.v 2) (
   .jmp 0 false [.c (.bool true)]) (
   .prim (.bin .gtr) [.v 1, .c (.int .i64 4)] <|
   .ite (.v 3) (
    .jmp 0 false [.c (.bool true)]) (
    .prim (.fld 1) [.v 0] <|
    .prim .len [.v 4] <|
    .prim (.bin .neq) [.v 5, .v 1] <|
    .ite (.v 6) (
     .jmp 0 false [.c (.bool true)]) (
     .prim (.fld 0) [.v 0] <|
     .prim (.bin .lss) [.v 7, .c (.int .i64 0)] <|
     .ite (.v 8) (
      .jmp 0 false [.c (.bool true)]) (
      .prim (.fld 0) [.v 0] <|
      .prim (.bin .gtr) [.v 9, .v 1] <|
      .jmp 0 false [.v 10]))))) 1 <|
 .ite (.v 2) (
  .jmp 0 false [.c (.bool false)]) (
  .sub0 [.bool] (
   .prim (.fld 0) [.v 0] <|
   .prim (.bin .eql) [.v 3, .c (.int .i64 0)] <|
   .ite (.v 4) (
    .jmp 0 false [.c (.bool true)]) (
    .prim (.fld 1) [.v 0] <|
    .prim (.fld 0) [.v 0] <|
    .prim (.bin .sub) [.v 6, .c (.int .i64 1)] <|
    .prim .get [.v 5, .v 7] <|
    .prim (.un .not) [.v 8] <|
    .jmp 0 false [.v 9])) 1 <|
  .jmp 0 false [.v 3])
theorem a_direc_May : treeOf cx 12 123 = some A_direc_May.erase := by kernel_rfl
theorem k_direc_May : FnOk cx 12 noC 123 F_direc_May := fn_ok (t := A_direc_May) a_direc_May (fun _ => rfl) (ok_of [] (by kernel_rfl) .nil) (fun x => by kernel_rfl)

/-! 125: backstay/backstayref09.May -/
noncomputable def r09_May_L1 (x0 : Entry) (x1 : Int) (s : Int) : Option (Int ⊕ Unit ⊕ Bool) :=
  if decide (s < x1) then
    (
      (getO (Entry.Share x0) s).bind fun v6 =>
      if v6 then
        some ((decide ((Entry.Owner x0) = (w64 (s + (1 : Int))))))
      else
        some (false) : Option Bool).bind fun v5 =>
    if v5 then
      some (Sum.inr (Sum.inr (false)))
    else
      some (Sum.inl (w64 (s + (1 : Int))))
  else
    some (Sum.inr (Sum.inl ()))
noncomputable def r09_May (p0 : Entry) (p1 : Int) : Option Bool :=
  if (decide (p1 < (1 : Int))) || ((decide ((4 : Int) < p1)) || ((!decide ((List.length (Entry.Share p0) : Int) = p1)) || ((decide ((Entry.Owner p0) < (0 : Int))) || (decide (p1 < (Entry.Owner p0)))))) then
    some (false)
  else
    orExit (
      loopD (r09_May_L1 p0 p1) (0 : Int) : Option (Unit ⊕ Bool)) fun v3 =>
    some (true)
noncomputable def F_r09_May : FnT := ⟨[tEntry, .int .i64], [.bool], fun x => r09_May x.1 x.2⟩
noncomputable def A_r09_May : TA :=
 .subp [.bool] (
  .prim (.bin .lss) [.v 1, .c (.int .i64 1)] <|
  .ite (.v 2) (
   .jmp 0 false [.c (.bool true)]) (
   .prim (.bin .gtr) [.v 1, .c (.int .i64 4)] <|
   .ite (.v 3) (
    .jmp 0 false [.c (.bool true)]) (
    .prim (.fld 1) [.v 0] <|
    .prim .len [.v 4] <|
    .prim (.bin .neq) [.v 5, .v 1] <|
    .ite (.v 6) (
     .jmp 0 false [.c (.bool true)]) (
     .prim (.fld 0) [.v 0] <|
     .prim (.bin .lss) [.v 7, .c (.int .i64 0)] <|
     .ite (.v 8) (
      .jmp 0 false [.c (.bool true)]) (
      .prim (.fld 0) [.v 0] <|
      .prim (.bin .gtr) [.v 9, .v 1] <|
      .jmp 0 false [.v 10]))))) 1 <|
 .ite (.v 2) (
  .jmp 0 false [.c (.bool false)]) (
  .sub1 [] (
   .loop [.int .i64] [.c (.int .i64 0)] (
    .prim (.bin .lss) [.v 3, .v 1] <|
    .ite (.v 4) (
     .sub0 [.bool] (
      .prim (.fld 1) [.v 0] <|
      .prim .get [.v 5, .v 3] <|
      .ite (.v 6) (
       .prim (.fld 0) [.v 0] <|
       .prim (.bin .add) [.v 3, .c (.int .i64 1)] <|
       .prim (.bin .eql) [.v 7, .v 8] <|
       .jmp 0 false [.v 9]) (
       .jmp 0 false [.c (.bool false)])) 1 <|
     .ite (.v 5) (
      .jmp 2 false [.c (.bool false)]) (
      .prim (.bin .add) [.v 3, .c (.int .i64 1)] <|
      .jmp 0 true [.v 6])) (
     .jmp 1 false []))) 0 <|
  .jmp 0 false [.c (.bool true)])
theorem a_r09_May : treeOf cx 12 125 = some A_r09_May.erase := by kernel_rfl
theorem k_r09_May : FnOk cx 12 noC 125 F_r09_May := fn_ok (t := A_r09_May) a_r09_May (fun _ => rfl) (ok_of [] (by kernel_rfl) .nil) (fun x => by kernel_rfl)

/-! 150: backstay/proto.rows[int] -/
noncomputable def proto_rows_int_L1 (x0 : List (List Int)) (x2 : Int) (x5 : Int) (s : Int) : Option (Int ⊕ Unit ⊕ Int) :=
  if decide (s < x5) then
    (getO x0 s).bind fun v8 =>
    if !decide ((List.length v8 : Int) = x2) then
      some (Sum.inr (Sum.inr (s)))
    else
      some (Sum.inl (w64 (s + (1 : Int))))
  else
    some (Sum.inr (Sum.inl ()))
noncomputable def proto_rows_int (p0 : List (List Int)) (p1 : Int) (p2 : Int) : Option Bool :=
  (
    if decide ((List.length p0 : Int) = p1) then
      (
        (
          let v5 : Int := (List.length p0 : Int)
          orExit (
            loopD (proto_rows_int_L1 p0 p2 v5) (0 : Int) : Option (Unit ⊕ Int)) fun v6 =>
          some ((-1 : Int)) : Option Int).bind fun v5 =>
        some ((decide ((0 : Int) ≤ v5))) : Option Bool).bind fun v5 =>
      some ((!v5))
    else
      some (false) : Option Bool).bind fun v3 =>
  some (v3)
noncomputable def F_proto_rows_int : FnT := ⟨[.sl (.sl (.int .i64)), .int .i64, .int .i64], [.bool], fun x => proto_rows_int x.1 x.2.1 x.2.2⟩
noncomputable def A_proto_rows_int : TA :=
 .sub0 [.bool] (
  .prim .len [.v 0] <|
  .prim (.bin .eql) [.v 3, .v 1] <|
  .ite (.v 4) (
   .sub0 [.bool] (
    .sub0 [.int .i64] (
     .prim .len [.v 0] <|
     .sub1 [] (
      .loop [.int .i64] [.c (.int .i64 0)] (
       .prim (.bin .lss) [.v 6, .v 5] <|
       .ite (.v 7) (
        .prim .get [.v 0, .v 6] <|
        .subp [.bool] (
         .prim .len [.v 8] <|
         .prim (.bin .neq) [.v 9, .v 2] <|
         .jmp 0 false [.v 10]) 1 <|
        .ite (.v 9) (
         .jmp 2 false [.v 6]) (
         .prim (.bin .add) [.v 6, .c (.int .i64 1)] <|
         .jmp 0 true [.v 10])) (
        .jmp 1 false []))) 0 <|
     .jmp 0 false [.c (.int .i64 (-1))]) 1 <|
    .prim (.bin .geq) [.v 5, .c (.int .i64 0)] <|
    .jmp 0 false [.v 6]) 1 <|
   .prim (.un .not) [.v 5] <|
   .jmp 0 false [.v 6]) (
   .jmp 0 false [.c (.bool false)])) 1 <|
 .jmp 0 false [.v 3]
theorem a_proto_rows_int : treeOf cx 12 150 = some A_proto_rows_int.erase := by kernel_rfl
theorem k_proto_rows_int : FnOk cx 12 noC 150 F_proto_rows_int := fn_ok (t := A_proto_rows_int) a_proto_rows_int (fun _ => rfl) (ok_of [] (by kernel_rfl) .nil) (fun x => by kernel_rfl)

/-! 151: backstay/proto.rows[uint32] -/
noncomputable def proto_rows_uint32 (p0 : List (List Int)) (p1 : Int) (p2 : Int) : Option Bool :=
  (
    if decide ((List.length p0 : Int) = p1) then
      (
        (
          let v5 : Int := (List.length p0 : Int)
          orExit (
            loopD (proto_rows_int_L1 p0 p2 v5) (0 : Int) : Option (Unit ⊕ Int)) fun v6 =>
          some ((-1 : Int)) : Option Int).bind fun v5 =>
        some ((decide ((0 : Int) ≤ v5))) : Option Bool).bind fun v5 =>
      some ((!v5))
    else
      some (false) : Option Bool).bind fun v3 =>
  some (v3)
noncomputable def F_proto_rows_uint32 : FnT := ⟨[.sl (.sl (.int .u32)), .int .i64, .int .i64], [.bool], fun x => proto_rows_uint32 x.1 x.2.1 x.2.2⟩
noncomputable def A_proto_rows_uint32 : TA :=
 .sub0 [.bool] (
  .prim .len [.v 0] <|
  .prim (.bin .eql) [.v 3, .v 1] <|
  .ite (.v 4) (
   .sub0 [.bool] (
    .sub0 [.int .i64] (
     .prim .len [.v 0] <|
     .sub1 [] (
      .loop [.int .i64] [.c (.int .i64 0)] (
       .prim (.bin .lss) [.v 6, .v 5] <|
       .ite (.v 7) (
        .prim .get [.v 0, .v 6] <|
        .subp [.bool] (
         .prim .len [.v 8] <|
         .prim (.bin .neq) [.v 9, .v 2] <|
         .jmp 0 false [.v 10]) 1 <|
        .ite (.v 9) (
         .jmp 2 false [.v 6]) (
         .prim (.bin .add) [.v 6, .c (.int .i64 1)] <|
         .jmp 0 true [.v 10])) (
        .jmp 1 false []))) 0 <|
     .jmp 0 false [.c (.int .i64 (-1))]) 1 <|
    .prim (.bin .geq) [.v 5, .c (.int .i64 0)] <|
    .jmp 0 false [.v 6]) 1 <|
   .prim (.un .not) [.v 5] <|
   .jmp 0 false [.v 6]) (
   .jmp 0 false [.c (.bool false)])) 1 <|
 .jmp 0 false [.v 3]
theorem a_proto_rows_uint32 : treeOf cx 12 151 = some A_proto_rows_uint32.erase := by kernel_rfl
theorem k_proto_rows_uint32 : FnOk cx 12 noC 151 F_proto_rows_uint32 := fn_ok (t := A_proto_rows_uint32) a_proto_rows_uint32 (fun _ => rfl) (ok_of [] (by kernel_rfl) .nil) (fun x => by kernel_rfl)

/-! 14: backstay/backstayref10.Short -/
noncomputable def r10_Short_L1 (x0 : Proto) (s : Int) : Option (Int ⊕ Unit ⊕ Bool) :=
  if decide (s < (List.length (Proto.Dir x0) : Int)) then
    (getO (Proto.Dir x0) s).bind fun v7 =>
    if decide ((20 : Int) < (List.length (Entry.Share v7) : Int)) then
      some (Sum.inr (Sum.inr (false)))
    else
      some (Sum.inl (w64 (s + (1 : Int))))
  else
    some (Sum.inr (Sum.inl ()))
noncomputable def r10_Short_L2 (x0 : Proto) (s : Int) : Option (Int ⊕ Unit ⊕ Bool) :=
  if decide (s < (List.length (Proto.Val x0) : Int)) then
    (getO (Proto.Val x0) s).bind fun v7 =>
    if decide ((20 : Int) < (List.length v7 : Int)) then
      some (Sum.inr (Sum.inr (false)))
    else
      some (Sum.inl (w64 (s + (1 : Int))))
  else
    some (Sum.inr (Sum.inl ()))
noncomputable def r10_Short_L3 (x0 : Proto) (s : Int) : Option (Int ⊕ Unit ⊕ Bool) :=
  if decide (s < (List.length (Proto.State x0) : Int)) then
    (getO (Proto.State x0) s).bind fun v7 =>
    if decide ((20 : Int) < (List.length v7 : Int)) then
      some (Sum.inr (Sum.inr (false)))
    else
      some (Sum.inl (w64 (s + (1 : Int))))
  else
    some (Sum.inr (Sum.inl ()))
noncomputable def r10_Short (p0 : Proto) : Option Bool :=
  (
    if decide ((6 : Int) < (List.length (Proto.State p0) : Int)) then
      some (true)
    else
      if decide ((6 : Int) < (List.length (Proto.Val p0) : Int)) then
        some (true)
      else
        if decide ((6 : Int) < (List.length (Proto.Wait p0) : Int)) then
          some (true)
        else
          if decide ((20 : Int) < (List.length (Proto.Home p0) : Int)) then
            some (true)
          else
            if decide ((20 : Int) < (List.length (Proto.Dir p0) : Int)) then
              some (true)
            else
              if decide ((20 : Int) < (List.length (Proto.Busy p0) : Int)) then
                some (true)
              else
                (r06_Short (Proto.Pool p0)).bind fun v20 =>
                some ((!v20)) : Option Bool).bind fun v1 =>
  if v1 then
    some (false)
  else
    orExit (
      loopD (r10_Short_L3 p0) (0 : Int) : Option (Unit ⊕ Bool)) fun v2 =>
    orExit (
      loopD (r10_Short_L2 p0) (0 : Int) : Option (Unit ⊕ Bool)) fun v2 =>
    orExit (
      loopD (r10_Short_L1 p0) (0 : Int) : Option (Unit ⊕ Bool)) fun v2 =>
    some (true)
noncomputable def F_r10_Short : FnT := ⟨[tProto], [.bool], fun x => r10_Short x⟩
noncomputable def A_r10_Short : TA :=
 .sub0 [.bool] (
  .prim (.fld 0) [.v 0] <|
  .prim .len [.v 1] <|
  .prim (.bin .gtr) [.v 2, .c (.int .i64 6)] <|
  .ite (.v 3) (
   .jmp 0 false [.c (.bool true)]) (
   .prim (.fld 1) [.v 0] <|
   .prim .len [.v 4] <|
   .prim (.bin .gtr) [.v 5, .c (.int .i64 6)] <|
   .ite (.v 6) (
    .jmp 0 false [.c (.bool true)]) (
    .prim (.fld 2) [.v 0] <|
    .prim .len [.v 7] <|
    .prim (.bin .gtr) [.v 8, .c (.int .i64 6)] <|
    .ite (.v 9) (
     .jmp 0 false [.c (.bool true)]) (
     .prim (.fld 3) [.v 0] <|
     .prim .len [.v 10] <|
     .prim (.bin .gtr) [.v 11, .c (.int .i64 20)] <|
     .ite (.v 12) (
      .jmp 0 false [.c (.bool true)]) (
      .prim (.fld 4) [.v 0] <|
      .prim .len [.v 13] <|
      .prim (.bin .gtr) [.v 14, .c (.int .i64 20)] <|
      .ite (.v 15) (
       .jmp 0 false [.c (.bool true)]) (
       .prim (.fld 5) [.v 0] <|
       .prim .len [.v 16] <|
       .prim (.bin .gtr) [.v 17, .c (.int .i64 20)] <|
       .ite (.v 18) (
        .jmp 0 false [.c (.bool true)]) (
        .prim (.fld 6) [.v 0] <|
        .call 40 F_r06_Short [.v 19] 1 <|
        .prim (.un .not) [.v 20] <|
        .jmp 0 false [.v 21]))))))) 1 <|
 .ite (.v 1) (
  .jmp 0 false [.c (.bool false)]) (
  .sub1 [] (
   .loop [.int .i64] [.c (.int .i64 0)] (
    .prim (.fld 0) [.v 0] <|
    .prim .len [.v 3] <|
    .prim (.bin .lss) [.v 2, .v 4] <|
    .ite (.v 5) (
     .prim (.fld 0) [.v 0] <|
     .prim .get [.v 6, .v 2] <|
     .prim .len [.v 7] <|
     .prim (.bin .gtr) [.v 8, .c (.int .i64 20)] <|
     .ite (.v 9) (
      .jmp 2 false [.c (.bool false)]) (
      .prim (.bin .add) [.v 2, .c (.int .i64 1)] <|
      .jmp 0 true [.v 10])) (
     .jmp 1 false []))) 0 <|
  .sub1 [] (
   .loop [.int .i64] [.c (.int .i64 0)] (
    .prim (.fld 1) [.v 0] <|
    .prim .len [.v 3] <|
    .prim (.bin .lss) [.v 2, .v 4] <|
    .ite (.v 5) (
     .prim (.fld 1) [.v 0] <|
     .prim .get [.v 6, .v 2] <|
     .prim .len [.v 7] <|
     .prim (.bin .gtr) [.v 8, .c (.int .i64 20)] <|
     .ite (.v 9) (
      .jmp 2 false [.c (.bool false)]) (
      .prim (.bin .add) [.v 2, .c (.int .i64 1)] <|
      .jmp 0 true [.v 10])) (
     .jmp 1 false []))) 0 <|
  .sub1 [] (
   .loop [.int .i64] [.c (.int .i64 0)] (
    .prim (.fld 4) [.v 0] <|
    .prim .len [.v 3] <|
    .prim (.bin .lss) [.v 2, .v 4] <|
    .ite (.v 5) (
     .prim (.fld 4) [.v 0] <|
     .prim .get [.v 6, .v 2] <|
     .prim (.fld 1) [.v 7] <|
     .prim .len [.v 8] <|
     .prim (.bin .gtr) [.v 9, .c (.int .i64 20)] <|
     .ite (.v 10) (
      .jmp 2 false [.c (.bool false)]) (
      .prim (.bin .add) [.v 2, .c (.int .i64 1)] <|
      .jmp 0 true [.v 11])) (
     .jmp 1 false []))) 0 <|
  .jmp 0 false [.c (.bool true)])
theorem a_r10_Short : treeOf cx 12 14 = some A_r10_Short.erase := by kernel_rfl
theorem k_r10_Short : FnOk cx 12 noC 14 F_r10_Short := fn_ok (t := A_r10_Short) a_r10_Short (fun _ => rfl) (ok_of [(40, F_r06_Short)] (by kernel_rfl) (.cons k_r06_Short .nil)) (fun x => by kernel_rfl)

/-! 51: backstay/pool.Right -/
noncomputable def pool_Right_L1 (x4 : List (List Int)) (x5 : Int) (s : Int) : Option (Int ⊕ Unit ⊕ Int) :=
  if decide (s < x5) then
    (getO x4 s).bind fun v8 =>
    if pool_Right_1 v8 then
      some (Sum.inr (Sum.inr (s)))
    else
      some (Sum.inl (w64 (s + (1 : Int))))
  else
    some (Sum.inr (Sum.inl ()))
noncomputable def pool_Right (p0 : Pool) : Option Bool :=
  (
    if decide ((List.length (Pool.Frames p0) : Int) ≤ (64 : Int)) then
      (
        (
          let v5 : Int := (List.length (Pool.Frames p0) : Int)
          orExit (
            loopD (pool_Right_L1 (Pool.Frames p0) v5) (0 : Int) : Option (Unit ⊕ Int)) fun v6 =>
          some ((-1 : Int)) : Option Int).bind fun v5 =>
        some ((decide ((0 : Int) ≤ v5))) : Option Bool).bind fun v5 =>
      some ((!v5))
    else
      some (false) : Option Bool).bind fun v1 =>
  some (v1)
noncomputable def F_pool_Right : FnT := ⟨[tPool], [.bool], fun x => pool_Right x⟩
noncomputable def A_pool_Right : TA :=
 .sub0 [.bool] (
  .prim (.fld 0) [.v 0] <|
  .prim .len [.v 1] <|
  .prim (.bin .leq) [.v 2, .c (.int .i64 64)] <|
  .ite (.v 3) (
   .prim (.fld 0) [.v 0] <|
   .sub0 [.bool] (
    .sub0 [.int .i64] (
     .prim .len [.v 4] <|
     .sub1 [] (
      .loop [.int .i64] [.c (.int .i64 0)] (
       .prim (.bin .lss) [.v 6, .v 5] <|
       .ite (.v 7) (
        .prim .get [.v 4, .v 6] <|
        .callp 102 F_pool_Right_1 [.v 8] 1 <|
        .ite (.v 9) (
         .jmp 2 false [.v 6]) (
         .prim (.bin .add) [.v 6, .c (.int .i64 1)] <|
         .jmp 0 true [.v 10])) (
        .jmp 1 false []))) 0 <|
     .jmp 0 false [.c (.int .i64 (-1))]) 1 <|
    .prim (.bin .geq) [.v 5, .c (.int .i64 0)] <|
    .jmp 0 false [.v 6]) 1 <|
   .prim (.un .not) [.v 5] <|
   .jmp 0 false [.v 6]) (
   .jmp 0 false [.c (.bool false)])) 1 <|
 .jmp 0 false [.v 1]
theorem a_pool_Right : treeOf cx 12 51 = some A_pool_Right.erase := by kernel_rfl
theorem k_pool_Right : FnOk cx 12 noC 51 F_pool_Right := fn_ok (t := A_pool_Right) a_pool_Right (fun _ => rfl) (ok_of [(102, F_pool_Right_1.fn)] (by kernel_rfl) (.cons k_pool_Right_1 .nil)) (fun x => by kernel_rfl)

/-! 68: backstay/proto.New -/
noncomputable def proto_New_L1 (x0 : Int) (x1 : Int) (s : (Int × (List Entry))) : Option ((Int × (List Entry)) ⊕ (List Entry)) :=
  if decide (s.1 < x1) then
    (direc_New x0).bind fun v11 =>
    (appO 32 s.2 ([v11.1] : List Entry)).bind fun v14 =>
    some (Sum.inl (w64 (s.1 + (1 : Int)), v14))
  else
    some (Sum.inr (s.2))
noncomputable def proto_New_L2 (x0 : Int) (x1 : Int) (s : (Int × (List (List Int)) × (List (List Int)))) : Option ((Int × (List (List Int)) × (List (List Int))) ⊕ ((List (List Int)) × (List (List Int)))) :=
  if decide (s.1 < x0) then
    (repO (0 : Int) 8 x1 x1).bind fun v10 =>
    (appO 24 s.2.1 ([v10] : List (List Int))).bind fun v12 =>
    (repO (0 : Int) 4 x1 x1).bind fun v13 =>
    (appO 24 s.2.2 ([v13] : List (List Int))).bind fun v15 =>
    some (Sum.inl (w64 (s.1 + (1 : Int)), v12, v15))
  else
    some (Sum.inr ((s.2.1, s.2.2)))
noncomputable def proto_New (p0 : Int) (p1 : Int) : Option (Proto × Int) :=
  if (decide (p0 < (1 : Int))) || ((decide ((4 : Int) < p0)) || ((decide (p1 < (1 : Int))) || (decide ((16 : Int) < p1)))) then
    some (((Proto.mk ([] : List (List Int)) ([] : List (List Int)) ([] : List Wait) ([] : List Int) ([] : List Entry) ([] : List Int) (Pool.mk ([] : List (List Int)))), (1 : Int)))
  else
    (repO (Wait.mk (0 : Int) false false false false false (0 : Int) (0 : Int) (0 : Int)) 40 p0 p0).bind fun v3 =>
    (repO (0 : Int) 4 p1 p1).bind fun v4 =>
    (repO (0 : Int) 8 p1 p1).bind fun v5 =>
    (
      loopD (proto_New_L2 p0 p1) ((0 : Int), ([] : List (List Int)), ([] : List (List Int))) : Option ((List (List Int)) × (List (List Int)))).bind fun v6 =>
    (
      loopD (proto_New_L1 p0 p1) ((0 : Int), ([] : List Entry)) : Option (List Entry)).bind fun v8 =>
    some ((Proto.mk v6.1 v6.2 v3 v4 v8 v5 (Pool.mk ([] : List (List Int))), (0 : Int)))
noncomputable def F_proto_New : FnT := ⟨[.int .i64, .int .i64], [tProto, .int .i64], fun x => proto_New x.1 x.2⟩
noncomputable def A_proto_New : TA :=
 .subp [.bool] (
  .prim (.bin .lss) [.v 0, .c (.int .i64 1)] <|
  .ite (.v 2) (
   .jmp 0 false [.c (.bool true)]) (
   .prim (.bin .gtr) [.v 0, .c (.int .i64 4)] <|
   .ite (.v 3) (
    .jmp 0 false [.c (.bool true)]) (
    .prim (.bin .lss) [.v 1, .c (.int .i64 1)] <|
    .ite (.v 4) (
     .jmp 0 false [.c (.bool true)]) (
     .prim (.bin .gtr) [.v 1, .c (.int .i64 16)] <|
     .jmp 0 false [.v 5])))) 1 <|
 .ite (.v 2) (
  .jmp 0 false [.c (.agg [.nil, .nil, .nil, .nil, .nil, .nil, (.agg [.nil])]), .c (.int .i64 1)]) (
  .primH (.rep (.agg [(.int .i64 0), (.bool false), (.bool false), (.bool false), (.bool false), (.bool false), (.int .i64 0), (.int .i64 0), (.int .u32 0)]) 40) (.sl tWait) [.v 0, .v 0] <|
  .primH (.rep (.int .u32 0) 4) (.sl (.int .u32)) [.v 1, .v 1] <|
  .primH (.rep (.int .i64 0) 8) (.sl (.int .i64)) [.v 1, .v 1] <|
  .sub0 [.sl (.sl (.int .i64)), .sl (.sl (.int .u32))] (
   .loop [.int .i64, .sl (.sl (.int .i64)), .sl (.sl (.int .u32))] [.c (.int .i64 0), .c .nil, .c .nil] (
    .prim (.bin .lss) [.v 6, .v 0] <|
    .ite (.v 9) (
     .primH (.rep (.int .i64 0) 8) (.sl (.int .i64)) [.v 1, .v 1] <|
     .mkL (.sl (.int .i64)) [.v 10] <|
     .prim (.app 24) [.v 7, .v 11] <|
     .primH (.rep (.int .u32 0) 4) (.sl (.int .u32)) [.v 1, .v 1] <|
     .mkL (.sl (.int .u32)) [.v 13] <|
     .prim (.app 24) [.v 8, .v 14] <|
     .prim (.bin .add) [.v 6, .c (.int .i64 1)] <|
     .jmp 0 true [.v 16, .v 12, .v 15]) (
     .jmp 1 false [.v 7, .v 8]))) 2 <|
  .sub0 [.sl tEntry] (
   .loop [.int .i64, .sl tEntry] [.c (.int .i64 0), .c .nil] (
    .prim (.bin .lss) [.v 8, .v 1] <|
    .ite (.v 10) (
     .call 117 F_direc_New [.v 0] 2 <|
     .mkL tEntry [.v 11] <|
     .prim (.app 32) [.v 9, .v 13] <|
     .prim (.bin .add) [.v 8, .c (.int .i64 1)] <|
     .jmp 0 true [.v 15, .v 14]) (
     .jmp 1 false [.v 9]))) 1 <|
  .mkS tsProto [.v 6, .v 7, .v 3, .v 4, .v 8, .v 5, .c (.agg [.nil])] <|
  .jmp 0 false [.v 9, .c (.int .i64 0)])
theorem a_proto_New : treeOf cx 12 68 = some A_proto_New.erase := by kernel_rfl
theorem k_proto_New : FnOk cx 12 noC 68 F_proto_New := fn_ok (t := A_proto_New) a_proto_New (fun _ => rfl) (ok_of [(117, F_direc_New)] (by kernel_rfl) (.cons k_direc_New .nil)) (fun x => by kernel_rfl)

/-! 81: backstay/backstayref10.Right -/
noncomputable def r10_Right_L1 (x0 : Proto) (x2 : Int) (x4 : Int) (s : Int) : Option (Int ⊕ Unit ⊕ Bool) :=
  if decide (s < x4) then
    (
      (getO (Proto.Dir x0) s).bind fun v9 =>
      (r09_May v9 x2).bind fun v10 =>
      if !v10 then
        some (true)
      else
        (getO (Proto.Busy x0) s).bind fun v13 =>
        if decide (v13 < (0 : Int)) then
          some (true)
        else
          (getO (Proto.Busy x0) s).bind fun v16 =>
          some ((decide (x2 < v16))) : Option Bool).bind fun v8 =>
    if v8 then
      some (Sum.inr (Sum.inr (false)))
    else
      some (Sum.inl (w64 (s + (1 : Int))))
  else
    some (Sum.inr (Sum.inl ()))
noncomputable def r10_Right_L2 (x0 : Proto) (x4 : Int) (x6 : Int) (s : Int) : Option (Int ⊕ Unit ⊕ Int ⊕ Unit ⊕ Bool) :=
  if decide (s < x4) then
    (
      (getO (Proto.State x0) x6).bind fun v14 =>
      (getO v14 s).bind fun v15 =>
      if decide (v15 < (0 : Int)) then
        some (true)
      else
        (getO (Proto.State x0) x6).bind fun v18 =>
        (getO v18 s).bind fun v19 =>
        some ((decide ((4 : Int) < v19))) : Option Bool).bind fun v13 =>
    if v13 then
      some (Sum.inr (Sum.inr (Sum.inr (Sum.inr (false)))))
    else
      some (Sum.inl (w64 (s + (1 : Int))))
  else
    some (Sum.inr (Sum.inl ()))
noncomputable def r10_Right_L3 (x0 : Proto) (x2 : Int) (x4 : Int) (s : Int) : Option (Int ⊕ Unit ⊕ Bool) :=
  if decide (s < x2) then
    (getO (Proto.Wait x0) s).bind fun v9 =>
    (
      (getO (Proto.State x0) s).bind fun v11 =>
      if !decide ((List.length v11 : Int) = x4) then
        some (true)
      else
        (getO (Proto.Val x0) s).bind fun v15 =>
        if !decide ((List.length v15 : Int) = x4) then
          some (true)
        else
          if decide ((Wait.Line v9) < (0 : Int)) then
            some (true)
          else
            if decide (x4 < (Wait.Line v9)) then
              some (true)
            else
              if decide ((Wait.Need v9) < (0 : Int)) then
                some (true)
              else
                if decide ((255 : Int) < (Wait.Need v9)) then
                  some (true)
                else
                  if decide ((Wait.Got v9) < (0 : Int)) then
                    some (true)
                  else
                    some ((decide ((255 : Int) < (Wait.Got v9)))) : Option Bool).bind fun v10 =>
    if v10 then
      some (Sum.inr (Sum.inr (false)))
    else
      orExit (
        loopD (r10_Right_L2 x0 x4 s) (0 : Int) : Option (Unit ⊕ Int ⊕ Unit ⊕ Bool)) fun v11 =>
      some (Sum.inl (w64 (s + (1 : Int))))
  else
    some (Sum.inr (Sum.inl ()))
noncomputable def r10_Right (p0 : Proto) : Option Bool :=
  let v2 : Int := (List.length (Proto.Wait p0) : Int)
  let v4 : Int := (List.length (Proto.Home p0) : Int)
  (
    if decide (v2 < (1 : Int)) then
      some (true)
    else
      if decide ((4 : Int) < v2) then
        some (true)
      else
        if decide (v4 < (1 : Int)) then
          some (true)
        else
          if decide ((16 : Int) < v4) then
            some (true)
          else
            if !decide ((List.length (Proto.State p0) : Int) = v2) then
              some (true)
            else
              if !decide ((List.length (Proto.Val p0) : Int) = v2) then
                some (true)
              else
                if !decide ((List.length (Proto.Dir p0) : Int) = v4) then
                  some (true)
                else
                  if !decide ((List.length (Proto.Busy p0) : Int) = v4) then
                    some (true)
                  else
                    (r06_Right (Proto.Pool p0)).bind fun v22 =>
                    some ((!v22)) : Option Bool).bind fun v5 =>
  if v5 then
    some (false)
  else
    orExit (
      loopD (r10_Right_L3 p0 v2 v4) (0 : Int) : Option (Unit ⊕ Bool)) fun v6 =>
    orExit (
      loopD (r10_Right_L1 p0 v2 v4) (0 : Int) : Option (Unit ⊕ Bool)) fun v6 =>
    some (true)
noncomputable def F_r10_Right : FnT := ⟨[tProto], [.bool], fun x => r10_Right x⟩
noncomputable def A_r10_Right : TA :=
 .prim (.fld 2) [.v 0] <|
 .prim .len [.v 1] <|
 .prim (.fld 3) [.v 0] <|
 .prim .len [.v 3] <|
 .sub0 [.bool] (
  .prim (.bin .lss) [.v 2, .c (.int .i64 1)] <|
  .ite (.v 5) (
   .jmp 0 false [.c (.bool true)]) (
   .prim (.bin .gtr) [.v 2, .c (.int .i64 4)] <|
   .ite (.v 6) (
    .jmp 0 false [.c (.bool true)]) (
    .prim (.bin .lss) [.v 4, .c (.int .i64 1)] <|
    .ite (.v 7) (
     .jmp 0 false [.c (.bool true)]) (
     .prim (.bin .gtr) [.v 4, .c (.int .i64 16)] <|
     .ite (.v 8) (
      .jmp 0 false [.c (.bool true)]) (
      .prim (.fld 0) [.v 0] <|
      .prim .len [.v 9] <|
      .prim (.bin .neq) [.v 10, .v 2] <|
      .ite (.v 11) (
       .jmp 0 false [.c (.bool true)]) (
       .prim (.fld 1) [.v 0] <|
       .prim .len [.v 12] <|
       .prim (.bin .neq) [.v 13, .v 2] <|
       .ite (.v 14) (
        .jmp 0 false [.c (.bool true)]) (
        .prim (.fld 4) [.v 0] <|
        .prim .len [.v 15] <|
        .prim (.bin .neq) [.v 16, .v 4] <|
        .ite (.v 17) (
         .jmp 0 false [.c (.bool true)]) (
         .prim (.fld 5) [.v 0] <|
         .prim .len [.v 18] <|
         .prim (.bin .neq) [.v 19, .v 4] <|
         .ite (.v 20) (
          .jmp 0 false [.c (.bool true)]) (
          .prim (.fld 6) [.v 0] <|
          .call 50 F_r06_Right [.v 21] 1 <|
          .prim (.un .not) [.v 22] <|
          .jmp 0 false [.v 23]))))))))) 1 <|
 .ite (.v 5) (
  .jmp 0 false [.c (.bool false)]) (
  .sub1 [] (
   .loop [.int .i64] [.c (.int .i64 0)] (
    .prim (.bin .lss) [.v 6, .v 2] <|
    .ite (.v 7) (
     .prim (.fld 2) [.v 0] <|
     .prim .get [.v 8, .v 6] <|
     .sub0 [.bool] (
      .prim (.fld 0) [.v 0] <|
      .prim .get [.v 10, .v 6] <|
      .prim .len [.v 11] <|
      .prim (.bin .neq) [.v 12, .v 4] <|
      .ite (.v 13) (
       .jmp 0 false [.c (.bool true)]) (
       .prim (.fld 1) [.v 0] <|
       .prim .get [.v 14, .v 6] <|
       .prim .len [.v 15] <|
       .prim (.bin .neq) [.v 16, .v 4] <|
       .ite (.v 17) (
        .jmp 0 false [.c (.bool true)]) (
        .prim (.fld 0) [.v 9] <|
        .prim (.bin .lss) [.v 18, .c (.int .i64 0)] <|
        .ite (.v 19) (
         .jmp 0 false [.c (.bool true)]) (
         .prim (.fld 0) [.v 9] <|
         .prim (.bin .gtr) [.v 20, .v 4] <|
         .ite (.v 21) (
          .jmp 0 false [.c (.bool true)]) (
          .prim (.fld 6) [.v 9] <|
          .prim (.bin .lss) [.v 22, .c (.int .i64 0)] <|
          .ite (.v 23) (
           .jmp 0 false [.c (.bool true)]) (
           .prim (.fld 6) [.v 9] <|
           .prim (.bin .gtr) [.v 24, .c (.int .i64 255)] <|
           .ite (.v 25) (
            .jmp 0 false [.c (.bool true)]) (
            .prim (.fld 7) [.v 9] <|
            .prim (.bin .lss) [.v 26, .c (.int .i64 0)] <|
            .ite (.v 27) (
             .jmp 0 false [.c (.bool true)]) (
             .prim (.fld 7) [.v 9] <|
             .prim (.bin .gtr) [.v 28, .c (.int .i64 255)] <|
             .jmp 0 false [.v 29])))))))) 1 <|
     .ite (.v 10) (
      .jmp 2 false [.c (.bool false)]) (
      .sub1 [] (
       .loop [.int .i64] [.c (.int .i64 0)] (
        .prim (.bin .lss) [.v 11, .v 4] <|
        .ite (.v 12) (
         .sub0 [.bool] (
          .prim (.fld 0) [.v 0] <|
          .prim .get [.v 13, .v 6] <|
          .prim .get [.v 14, .v 11] <|
          .prim (.bin .lss) [.v 15, .c (.int .i64 0)] <|
          .ite (.v 16) (
           .jmp 0 false [.c (.bool true)]) (
           .prim (.fld 0) [.v 0] <|
           .prim .get [.v 17, .v 6] <|
           .prim .get [.v 18, .v 11] <|
           .prim (.bin .gtr) [.v 19, .c (.int .i64 4)] <|
           .jmp 0 false [.v 20])) 1 <|
         .ite (.v 13) (
          .jmp 4 false [.c (.bool false)]) (
          .prim (.bin .add) [.v 11, .c (.int .i64 1)] <|
          .jmp 0 true [.v 14])) (
         .jmp 1 false []))) 0 <|
      .prim (.bin .add) [.v 6, .c (.int .i64 1)] <|
      .jmp 0 true [.v 11])) (
     .jmp 1 false []))) 0 <|
  .sub1 [] (
   .loop [.int .i64] [.c (.int .i64 0)] (
    .prim (.bin .lss) [.v 6, .v 4] <|
    .ite (.v 7) (
     .sub0 [.bool] (
      .prim (.fld 4) [.v 0] <|
      .prim .get [.v 8, .v 6] <|
      .call 125 F_r09_May [.v 9, .v 2] 1 <|
      .prim (.un .not) [.v 10] <|
      .ite (.v 11) (
       .jmp 0 false [.c (.bool true)]) (
       .prim (.fld 5) [.v 0] <|
       .prim .get [.v 12, .v 6] <|
       .prim (.bin .lss) [.v 13, .c (.int .i64 0)] <|
       .ite (.v 14) (
        .jmp 0 false [.c (.bool true)]) (
        .prim (.fld 5) [.v 0] <|
        .prim .get [.v 15, .v 6] <|
        .prim (.bin .gtr) [.v 16, .v 2] <|
        .jmp 0 false [.v 17]))) 1 <|
     .ite (.v 8) (
      .jmp 2 false [.c (.bool false)]) (
      .prim (.bin .add) [.v 6, .c (.int .i64 1)] <|
      .jmp 0 true [.v 9])) (
     .jmp 1 false []))) 0 <|
  .jmp 0 false [.c (.bool true)])
theorem a_r10_Right : treeOf cx 12 81 = some A_r10_Right.erase := by kernel_rfl
theorem k_r10_Right : FnOk cx 12 noC 81 F_r10_Right := fn_ok (t := A_r10_Right) a_r10_Right (fun _ => rfl) (ok_of [(50, F_r06_Right), (125, F_r09_May)] (by kernel_rfl) (.cons k_r06_Right (.cons k_r09_May .nil))) (fun x => by kernel_rfl)

/-! 120: backstay/proto.formed -/
noncomputable def proto_formed (p0 : Proto) : Option Bool :=
  let v2 : Int := (List.length (Proto.Wait p0) : Int)
  let v4 : Int := (List.length (Proto.Home p0) : Int)
  if (decide (v2 < (1 : Int))) || ((decide ((4 : Int) < v2)) || ((decide (v4 < (1 : Int))) || (decide ((16 : Int) < v4)))) then
    some (false)
  else
    (
      (proto_rows_int (Proto.State p0) v2 v4).bind fun v7 =>
      if v7 then
        (proto_rows_uint32 (Proto.Val p0) v2 v4).bind fun v9 =>
        if v9 then
          if decide ((List.length (Proto.Dir p0) : Int) = v4) then
            some ((decide ((List.length (Proto.Busy p0) : Int) = v4)))
          else
            some (false)
        else
          some (false)
      else
        some (false) : Option Bool).bind fun v6 =>
    some (v6)
noncomputable def F_proto_formed : FnT := ⟨[tProto], [.bool], fun x => proto_formed x⟩
noncomputable def A_proto_formed : TA :=
 .prim (.fld 2) [.v 0] <|
 .prim .len [.v 1] <|
 .prim (.fld 3) [.v 0] <|
 .prim .len [.v 3] <|
 .subp [.bool] (
  .prim (.bin .lss) [.v 2, .c (.int .i64 1)] <|
  .ite (.v 5) (
   .jmp 0 false [.c (.bool true)]) (
   .prim (.bin .gtr) [.v 2, .c (.int .i64 4)] <|
   .ite (.v 6) (
    .jmp 0 false [.c (.bool true)]) (
    .prim (.bin .lss) [.v 4, .c (.int .i64 1)] <|
    .ite (.v 7) (
     .jmp 0 false [.c (.bool true)]) (
     .prim (.bin .gtr) [.v 4, .c (.int .i64 16)] <|
     .jmp 0 false [.v 8])))) 1 <|
 .ite (.v 5) (
  .jmp 0 false [.c (.bool false)]) (
  .sub0 [.bool] (
   .prim (.fld 0) [.v 0] <|
   .call 150 F_proto_rows_int [.v 6, .v 2, .v 4] 1 <|
   .ite (.v 7) (
    .prim (.fld 1) [.v 0] <|
    .call 151 F_proto_rows_uint32 [.v 8, .v 2, .v 4] 1 <|
    .ite (.v 9) (
     .prim (.fld 4) [.v 0] <|
     .prim .len [.v 10] <|
     .prim (.bin .eql) [.v 11, .v 4] <|
     .ite (.v 12) (
      .prim (.fld 5) [.v 0] <|
      .prim .len [.v 13] <|
      .prim (.bin .eql) [.v 14, .v 4] <|
      .jmp 0 false [.v 15]) (
      .jmp 0 false [.c (.bool false)])) (
     .jmp 0 false [.c (.bool false)])) (
    .jmp 0 false [.c (.bool false)])) 1 <|
  .jmp 0 false [.v 6])
theorem a_proto_formed : treeOf cx 12 120 = some A_proto_formed.erase := by kernel_rfl
theorem k_proto_formed : FnOk cx 12 noC 120 F_proto_formed := fn_ok (t := A_proto_formed) a_proto_formed (fun _ => rfl) (ok_of [(150, F_proto_rows_int), (151, F_proto_rows_uint32)] (by kernel_rfl) (.cons k_proto_rows_int (.cons k_proto_rows_uint32 .nil))) (fun x => by kernel_rfl)

/-! 122: backstay/proto.Right$1 -/
def proto_Right_1 (p0 : Int) : Bool :=
  !(proto_within p0 (5 : Int))
def F_proto_Right_1 : PnT := ⟨[.int .i64], [.bool], fun x => proto_Right_1 x⟩
def A_proto_Right_1 : TA :=
 .callp 121 F_proto_within [.v 0, .c (.int .i64 5)] 1 <|
 .prim (.un .not) [.v 1] <|
 .jmp 0 false [.v 2]
theorem a_proto_Right_1 : treeOf cx 12 122 = some A_proto_Right_1.erase := by kernel_rfl
theorem k_proto_Right_1 : FnOk cx 12 noC 122 F_proto_Right_1.fn := pn_ok (t := A_proto_Right_1) a_proto_Right_1 (fun _ => rfl) (ok_of [(121, F_proto_within.fn)] (by kernel_rfl) (.cons k_proto_within .nil)) (fun x => by kernel_rfl)

/-! 22: backstay/backstayref22.Calm -/
noncomputable def r22_Calm_L1 (x0 : Proto) (s : (Int × Int)) : Option ((Int × Int) ⊕ Int) :=
  if decide (s.2 < (List.length (Proto.Busy x0) : Int)) then
    (getO (Proto.Busy x0) s.2).bind fun v13 =>
    some (Sum.inl (w64 (s.1 + v13), w64 (s.2 + (1 : Int))))
  else
    some (Sum.inr (s.1))
noncomputable def r22_Calm_L2 (x0 : Proto) (s : (Int × Int)) : Option ((Int × Int) ⊕ Int) :=
  if decide (s.2 < (List.length (Proto.Wait x0) : Int)) then
    (getO (Proto.Wait x0) s.2).bind fun v12 =>
    some (Sum.inl (w64 (s.1 + (Wait.Line v12)), w64 (s.2 + (1 : Int))))
  else
    some (Sum.inr (s.1))
noncomputable def r22_Calm (p0 : Proto) : Option Bool :=
  (r10_Right p0).bind fun v1 =>
  if !v1 then
    some (false)
  else
    (
      loopD (r22_Calm_L2 p0) ((List.length (Pool.Frames (Proto.Pool p0)) : Int), (0 : Int)) : Option Int).bind fun v6 =>
    (
      loopD (r22_Calm_L1 p0) (v6, (0 : Int)) : Option Int).bind fun v7 =>
    some ((decide (v7 = (0 : Int))))
noncomputable def F_r22_Calm : FnT := ⟨[tProto], [.bool], fun x => r22_Calm x⟩
noncomputable def A_r22_Calm : TA :=
 .call 81 F_r10_Right [.v 0] 1 <|
 .prim (.un .not) [.v 1] <|
 .ite (.v 2) (
  .jmp 0 false [.c (.bool false)]) (
  .prim (.fld 6) [.v 0] <|
  .prim (.fld 0) [.v 3] <|
  .prim .len [.v 4] <|
  .sub0 [.int .i64] (
   .loop [.int .i64, .int .i64] [.v 5, .c (.int .i64 0)] (
    .prim (.fld 2) [.v 0] <|
    .prim .len [.v 8] <|
    .prim (.bin .lss) [.v 7, .v 9] <|
    .ite (.v 10) (
     .prim (.fld 2) [.v 0] <|
     .prim .get [.v 11, .v 7] <|
     .prim (.fld 0) [.v 12] <|
     .prim (.bin .add) [.v 6, .v 13] <|
     .prim (.bin .add) [.v 7, .c (.int .i64 1)] <|
     .jmp 0 true [.v 14, .v 15]) (
     .jmp 1 false [.v 6]))) 1 <|
  .sub0 [.int .i64] (
   .loop [.int .i64, .int .i64] [.v 6, .c (.int .i64 0)] (
    .prim (.fld 5) [.v 0] <|
    .prim .len [.v 9] <|
    .prim (.bin .lss) [.v 8, .v 10] <|
    .ite (.v 11) (
     .prim (.fld 5) [.v 0] <|
     .prim .get [.v 12, .v 8] <|
     .prim (.bin .add) [.v 7, .v 13] <|
     .prim (.bin .add) [.v 8, .c (.int .i64 1)] <|
     .jmp 0 true [.v 14, .v 15]) (
     .jmp 1 false [.v 7]))) 1 <|
  .prim (.bin .eql) [.v 7, .c (.int .i64 0)] <|
  .jmp 0 false [.v 8])
theorem a_r22_Calm : treeOf cx 12 22 = some A_r22_Calm.erase := by kernel_rfl
theorem k_r22_Calm : FnOk cx 12 noC 22 F_r22_Calm := fn_ok (t := A_r22_Calm) a_r22_Calm (fun _ => rfl) (ok_of [(81, F_r10_Right)] (by kernel_rfl) (.cons k_r10_Right .nil)) (fun x => by kernel_rfl)

/-! 73: backstay/backstayref22.there -/
noncomputable def r22_there (p0 : Proto) (p1 : Int) : Option Bool :=
  (
    (r10_Right p0).bind fun v2 =>
    if v2 then
      if decide ((0 : Int) ≤ p1) then
        some ((decide (p1 < (List.length (Proto.Home p0) : Int))))
      else
        some (false)
    else
      some (false) : Option Bool).bind fun v2 =>
  some (v2)
noncomputable def F_r22_there : FnT := ⟨[tProto, .int .i64], [.bool], fun x => r22_there x.1 x.2⟩
noncomputable def A_r22_there : TA :=
 .sub0 [.bool] (
  .call 81 F_r10_Right [.v 0] 1 <|
  .ite (.v 2) (
   .prim (.bin .geq) [.v 1, .c (.int .i64 0)] <|
   .ite (.v 3) (
    .prim (.fld 3) [.v 0] <|
    .prim .len [.v 4] <|
    .prim (.bin .lss) [.v 1, .v 5] <|
    .jmp 0 false [.v 6]) (
    .jmp 0 false [.c (.bool false)])) (
   .jmp 0 false [.c (.bool false)])) 1 <|
 .jmp 0 false [.v 2]
theorem a_r22_there : treeOf cx 12 73 = some A_r22_there.erase := by kernel_rfl
theorem k_r22_there : FnOk cx 12 noC 73 F_r22_there := fn_ok (t := A_r22_there) a_r22_there (fun _ => rfl) (ok_of [(81, F_r10_Right)] (by kernel_rfl) (.cons k_r10_Right .nil)) (fun x => by kernel_rfl)

/-! 77: backstay/proto.Right -/
noncomputable def proto_Right_L1 (x0 : Proto) (x3 : Int) (x8 : List Entry) (x9 : Int) (s : Int) : Option (Int ⊕ Unit ⊕ Bool) :=
  if decide (s < x9) then
    (getO x8 s).bind fun v12 =>
    (
      (direc_May v12 x3).bind fun v13 =>
      if !v13 then
        some (true)
      else
        (getO (Proto.Busy x0) s).bind fun v16 =>
        some ((!(proto_within v16 (w64 (x3 + (1 : Int)))))) : Option Bool).bind fun v13 =>
    if v13 then
      some (Sum.inr (Sum.inr (false)))
    else
      some (Sum.inl (w64 (s + (1 : Int))))
  else
    some (Sum.inr (Sum.inl ()))
noncomputable def proto_Right_L2 (x13 : List Int) (x14 : Int) (s : Int) : Option (Int ⊕ Unit ⊕ Int) :=
  if decide (s < x14) then
    (getO x13 s).bind fun v17 =>
    if proto_Right_1 v17 then
      some (Sum.inr (Sum.inr (s)))
    else
      some (Sum.inl (w64 (s + (1 : Int))))
  else
    some (Sum.inr (Sum.inl ()))
noncomputable def proto_Right_L3 (x0 : Proto) (x5 : Int) (x6 : List Wait) (x7 : Int) (s : Int) : Option (Int ⊕ Unit ⊕ Bool) :=
  if decide (s < x7) then
    (getO x6 s).bind fun v10 =>
    if (!(proto_within (Wait.Line v10) (w64 (x5 + (1 : Int))))) || ((!(proto_within (Wait.Need v10) (256 : Int))) || (!(proto_within (Wait.Got v10) (256 : Int)))) then
      some (Sum.inr (Sum.inr (false)))
    else
      (getO (Proto.State x0) s).bind fun v13 =>
      (
        (
          let v14 : Int := (List.length v13 : Int)
          orExit (
            loopD (proto_Right_L2 v13 v14) (0 : Int) : Option (Unit ⊕ Int)) fun v15 =>
          some ((-1 : Int)) : Option Int).bind fun v14 =>
        some ((decide ((0 : Int) ≤ v14))) : Option Bool).bind fun v14 =>
      if v14 then
        some (Sum.inr (Sum.inr (false)))
      else
        some (Sum.inl (w64 (s + (1 : Int))))
  else
    some (Sum.inr (Sum.inl ()))
noncomputable def proto_Right (p0 : Proto) : Option Bool :=
  (
    (proto_formed p0).bind fun v1 =>
    if !v1 then
      some (true)
    else
      (pool_Right (Proto.Pool p0)).bind fun v4 =>
      some ((!v4)) : Option Bool).bind fun v1 =>
  if v1 then
    some (false)
  else
    let v3 : Int := (List.length (Proto.Wait p0) : Int)
    let v5 : Int := (List.length (Proto.Home p0) : Int)
    let v7 : Int := (List.length (Proto.Wait p0) : Int)
    orExit (
      loopD (proto_Right_L3 p0 v5 (Proto.Wait p0) v7) (0 : Int) : Option (Unit ⊕ Bool)) fun v8 =>
    let v9 : Int := (List.length (Proto.Dir p0) : Int)
    orExit (
      loopD (proto_Right_L1 p0 v3 (Proto.Dir p0) v9) (0 : Int) : Option (Unit ⊕ Bool)) fun v10 =>
    some (true)
noncomputable def F_proto_Right : FnT := ⟨[tProto], [.bool], fun x => proto_Right x⟩
noncomputable def A_proto_Right : TA :=
 .sub0 [.bool] (
  .call 120 F_proto_formed [.v 0] 1 <|
  .prim (.un .not) [.v 1] <|
  .ite (.v 2) (
   .jmp 0 false [.c (.bool true)]) (
   .prim (.fld 6) [.v 0] <|
   .call 51 F_pool_Right [.v 3] 1 <|
   .prim (.un .not) [.v 4] <|
   .jmp 0 false [.v 5])) 1 <|
 .ite (.v 1) (
  .jmp 0 false [.c (.bool false)]) (
  .prim (.fld 2) [.v 0] <|
  .prim .len [.v 2] <|
  .prim (.fld 3) [.v 0] <|
  .prim .len [.v 4] <|
  .prim (.fld 2) [.v 0] <|
  .prim .len [.v 6] <|
  .sub1 [] (
   .loop [.int .i64] [.c (.int .i64 0)] (
    .prim (.bin .lss) [.v 8, .v 7] <|
    .ite (.v 9) (
     .prim .get [.v 6, .v 8] <|
     .subp [.bool] (
      .prim (.fld 0) [.v 10] <|
      .prim (.bin .add) [.v 5, .c (.int .i64 1)] <|
      .callp 121 F_proto_within [.v 11, .v 12] 1 <|
      .prim (.un .not) [.v 13] <|
      .ite (.v 14) (
       .jmp 0 false [.c (.bool true)]) (
       .prim (.fld 6) [.v 10] <|
       .callp 121 F_proto_within [.v 15, .c (.int .i64 256)] 1 <|
       .prim (.un .not) [.v 16] <|
       .ite (.v 17) (
        .jmp 0 false [.c (.bool true)]) (
        .prim (.fld 7) [.v 10] <|
        .callp 121 F_proto_within [.v 18, .c (.int .i64 256)] 1 <|
        .prim (.un .not) [.v 19] <|
        .jmp 0 false [.v 20]))) 1 <|
     .ite (.v 11) (
      .jmp 2 false [.c (.bool false)]) (
      .prim (.fld 0) [.v 0] <|
      .prim .get [.v 12, .v 8] <|
      .sub0 [.bool] (
       .sub0 [.int .i64] (
        .prim .len [.v 13] <|
        .sub1 [] (
         .loop [.int .i64] [.c (.int .i64 0)] (
          .prim (.bin .lss) [.v 15, .v 14] <|
          .ite (.v 16) (
           .prim .get [.v 13, .v 15] <|
           .callp 122 F_proto_Right_1 [.v 17] 1 <|
           .ite (.v 18) (
            .jmp 2 false [.v 15]) (
            .prim (.bin .add) [.v 15, .c (.int .i64 1)] <|
            .jmp 0 true [.v 19])) (
           .jmp 1 false []))) 0 <|
        .jmp 0 false [.c (.int .i64 (-1))]) 1 <|
       .prim (.bin .geq) [.v 14, .c (.int .i64 0)] <|
       .jmp 0 false [.v 15]) 1 <|
      .ite (.v 14) (
       .jmp 2 false [.c (.bool false)]) (
       .prim (.bin .add) [.v 8, .c (.int .i64 1)] <|
       .jmp 0 true [.v 15]))) (
     .jmp 1 false []))) 0 <|
  .prim (.fld 4) [.v 0] <|
  .prim .len [.v 8] <|
  .sub1 [] (
   .loop [.int .i64] [.c (.int .i64 0)] (
    .prim (.bin .lss) [.v 10, .v 9] <|
    .ite (.v 11) (
     .prim .get [.v 8, .v 10] <|
     .sub0 [.bool] (
      .call 123 F_direc_May [.v 12, .v 3] 1 <|
      .prim (.un .not) [.v 13] <|
      .ite (.v 14) (
       .jmp 0 false [.c (.bool true)]) (
       .prim (.fld 5) [.v 0] <|
       .prim .get [.v 15, .v 10] <|
       .prim (.bin .add) [.v 3, .c (.int .i64 1)] <|
       .callp 121 F_proto_within [.v 16, .v 17] 1 <|
       .prim (.un .not) [.v 18] <|
       .jmp 0 false [.v 19])) 1 <|
     .ite (.v 13) (
      .jmp 2 false [.c (.bool false)]) (
      .prim (.bin .add) [.v 10, .c (.int .i64 1)] <|
      .jmp 0 true [.v 14])) (
     .jmp 1 false []))) 0 <|
  .jmp 0 false [.c (.bool true)])
theorem a_proto_Right : treeOf cx 12 77 = some A_proto_Right.erase := by kernel_rfl
theorem k_proto_Right : FnOk cx 12 noC 77 F_proto_Right := fn_ok (t := A_proto_Right) a_proto_Right (fun _ => rfl) (ok_of [(120, F_proto_formed), (51, F_pool_Right), (121, F_proto_within.fn), (121, F_proto_within.fn), (121, F_proto_within.fn), (122, F_proto_Right_1.fn), (123, F_direc_May), (121, F_proto_within.fn)] (by kernel_rfl) (.cons k_proto_formed (.cons k_pool_Right (.cons k_proto_within (.cons k_proto_within (.cons k_proto_within (.cons k_proto_Right_1 (.cons k_direc_May (.cons k_proto_within .nil))))))))) (fun x => by kernel_rfl)

/-! 119: backstay/backstayref10.there -/
noncomputable def r10_there (p0 : Proto) (p1 : Int) (p2 : Int) : Option Bool :=
  (
    (r10_Right p0).bind fun v3 =>
    if v3 then
      if decide ((0 : Int) ≤ p1) then
        if decide (p1 < (List.length (Proto.Wait p0) : Int)) then
          if decide ((0 : Int) ≤ p2) then
            some ((decide (p2 < (List.length (Proto.Home p0) : Int))))
          else
            some (false)
        else
          some (false)
      else
        some (false)
    else
      some (false) : Option Bool).bind fun v3 =>
  some (v3)
noncomputable def F_r10_there : FnT := ⟨[tProto, .int .i64, .int .i64], [.bool], fun x => r10_there x.1 x.2.1 x.2.2⟩
noncomputable def A_r10_there : TA :=
 .sub0 [.bool] (
  .call 81 F_r10_Right [.v 0] 1 <|
  .ite (.v 3) (
   .prim (.bin .geq) [.v 1, .c (.int .i64 0)] <|
   .ite (.v 4) (
    .prim (.fld 2) [.v 0] <|
    .prim .len [.v 5] <|
    .prim (.bin .lss) [.v 1, .v 6] <|
    .ite (.v 7) (
     .prim (.bin .geq) [.v 2, .c (.int .i64 0)] <|
     .ite (.v 8) (
      .prim (.fld 3) [.v 0] <|
      .prim .len [.v 9] <|
      .prim (.bin .lss) [.v 2, .v 10] <|
      .jmp 0 false [.v 11]) (
      .jmp 0 false [.c (.bool false)])) (
     .jmp 0 false [.c (.bool false)])) (
    .jmp 0 false [.c (.bool false)])) (
   .jmp 0 false [.c (.bool false)])) 1 <|
 .jmp 0 false [.v 3]
theorem a_r10_there : treeOf cx 12 119 = some A_r10_there.erase := by kernel_rfl
theorem k_r10_there : FnOk cx 12 noC 119 F_r10_there := fn_ok (t := A_r10_there) a_r10_there (fun _ => rfl) (ok_of [(81, F_r10_Right)] (by kernel_rfl) (.cons k_r10_Right .nil)) (fun x => by kernel_rfl)

/-! 20: backstay/backstayref22.Known -/
noncomputable def r22_Known_L1 (x0 : Proto) (x1 : Int) (x7 : Entry) (s : Int) : Option (Int ⊕ Unit ⊕ Bool) :=
  if decide (s < (List.length (Proto.State x0) : Int)) then
    (getO (Proto.State x0) s).bind fun v13 =>
    (getO v13 x1).bind fun v14 =>
    (
      if !decide ((decide ((2 : Int) ≤ v14)) = (decide ((Entry.Owner x7) = (w64 (s + (1 : Int)))))) then
        some (true)
      else
        if decide (v14 = (1 : Int)) then
          (getO (Entry.Share x7) s).bind fun v22 =>
          some ((!v22))
        else
          some (false) : Option Bool).bind fun v16 =>
    if v16 then
      some (Sum.inr (Sum.inr (false)))
    else
      (
        if decide ((Entry.Owner x7) = (0 : Int)) then
          if !decide (v14 = (0 : Int)) then
            (getO (Proto.Val x0) s).bind fun v21 =>
            (getO v21 x1).bind fun v22 =>
            (getO (Proto.Home x0) x1).bind fun v24 =>
            some ((!decide (v22 = v24)))
          else
            if decide (v14 = (2 : Int)) then
              (getO (Proto.Val x0) s).bind fun v22 =>
              (getO v22 x1).bind fun v23 =>
              (getO (Proto.Home x0) x1).bind fun v25 =>
              some ((!decide (v23 = v25)))
            else
              some (false)
        else
          if decide (v14 = (2 : Int)) then
            (getO (Proto.Val x0) s).bind fun v21 =>
            (getO v21 x1).bind fun v22 =>
            (getO (Proto.Home x0) x1).bind fun v24 =>
            some ((!decide (v22 = v24)))
          else
            some (false) : Option Bool).bind fun v17 =>
      if v17 then
        some (Sum.inr (Sum.inr (false)))
      else
        some (Sum.inl (w64 (s + (1 : Int))))
  else
    some (Sum.inr (Sum.inl ()))
noncomputable def r22_Known (p0 : Proto) (p1 : Int) : Option Bool :=
  (r22_there p0 p1).bind fun v2 =>
  if !v2 then
    some (false)
  else
    (r22_Calm p0).bind fun v4 =>
    if !v4 then
      some (true)
    else
      (getO (Proto.Dir p0) p1).bind fun v7 =>
      orExit (
        loopD (r22_Known_L1 p0 p1 v7) (0 : Int) : Option (Unit ⊕ Bool)) fun v8 =>
      some (true)
noncomputable def F_r22_Known : FnT := ⟨[tProto, .int .i64], [.bool], fun x => r22_Known x.1 x.2⟩
noncomputable def A_r22_Known : TA :=
 .call 73 F_r22_there [.v 0, .v 1] 1 <|
 .prim (.un .not) [.v 2] <|
 .ite (.v 3) (
  .jmp 0 false [.c (.bool false)]) (
  .call 22 F_r22_Calm [.v 0] 1 <|
  .prim (.un .not) [.v 4] <|
  .ite (.v 5) (
   .jmp 0 false [.c (.bool true)]) (
   .prim (.fld 4) [.v 0] <|
   .prim .get [.v 6, .v 1] <|
   .sub1 [] (
    .loop [.int .i64] [.c (.int .i64 0)] (
     .prim (.fld 0) [.v 0] <|
     .prim .len [.v 9] <|
     .prim (.bin .lss) [.v 8, .v 10] <|
     .ite (.v 11) (
      .prim (.fld 0) [.v 0] <|
      .prim .get [.v 12, .v 8] <|
      .prim .get [.v 13, .v 1] <|
      .prim (.bin .geq) [.v 14, .c (.int .i64 2)] <|
      .sub0 [.bool] (
       .prim (.fld 0) [.v 7] <|
       .prim (.bin .add) [.v 8, .c (.int .i64 1)] <|
       .prim (.bin .eql) [.v 16, .v 17] <|
       .prim (.bin .neq) [.v 15, .v 18] <|
       .ite (.v 19) (
        .jmp 0 false [.c (.bool true)]) (
        .prim (.bin .eql) [.v 14, .c (.int .i64 1)] <|
        .ite (.v 20) (
         .prim (.fld 1) [.v 7] <|
         .prim .get [.v 21, .v 8] <|
         .prim (.un .not) [.v 22] <|
         .jmp 0 false [.v 23]) (
         .jmp 0 false [.c (.bool false)]))) 1 <|
      .ite (.v 16) (
       .jmp 2 false [.c (.bool false)]) (
       .sub0 [.bool] (
        .prim (.fld 0) [.v 7] <|
        .prim (.bin .eql) [.v 17, .c (.int .i64 0)] <|
        .ite (.v 18) (
         .prim (.bin .neq) [.v 14, .c (.int .i64 0)] <|
         .ite (.v 19) (
          .prim (.fld 1) [.v 0] <|
          .prim .get [.v 20, .v 8] <|
          .prim .get [.v 21, .v 1] <|
          .prim (.fld 3) [.v 0] <|
          .prim .get [.v 23, .v 1] <|
          .prim (.bin .neq) [.v 22, .v 24] <|
          .jmp 0 false [.v 25]) (
          .prim (.bin .eql) [.v 14, .c (.int .i64 2)] <|
          .ite (.v 20) (
           .prim (.fld 1) [.v 0] <|
           .prim .get [.v 21, .v 8] <|
           .prim .get [.v 22, .v 1] <|
           .prim (.fld 3) [.v 0] <|
           .prim .get [.v 24, .v 1] <|
           .prim (.bin .neq) [.v 23, .v 25] <|
           .jmp 0 false [.v 26]) (
           .jmp 0 false [.c (.bool false)]))) (
         .prim (.bin .eql) [.v 14, .c (.int .i64 2)] <|
         .ite (.v 19) (
          .prim (.fld 1) [.v 0] <|
          .prim .get [.v 20, .v 8] <|
          .prim .get [.v 21, .v 1] <|
          .prim (.fld 3) [.v 0] <|
          .prim .get [.v 23, .v 1] <|
          .prim (.bin .neq) [.v 22, .v 24] <|
          .jmp 0 false [.v 25]) (
          .jmp 0 false [.c (.bool false)]))) 1 <|
       .ite (.v 17) (
        .jmp 2 false [.c (.bool false)]) (
        .prim (.bin .add) [.v 8, .c (.int .i64 1)] <|
        .jmp 0 true [.v 18]))) (
      .jmp 1 false []))) 0 <|
   .jmp 0 false [.c (.bool true)]))
theorem a_r22_Known : treeOf cx 12 20 = some A_r22_Known.erase := by kernel_rfl
theorem k_r22_Known : FnOk cx 12 noC 20 F_r22_Known := fn_ok (t := A_r22_Known) a_r22_Known (fun _ => rfl) (ok_of [(73, F_r22_there), (22, F_r22_Calm)] (by kernel_rfl) (.cons k_r22_there (.cons k_r22_Calm .nil))) (fun x => by kernel_rfl)

/-! 21: backstay/watch.Calm -/
noncomputable def watch_Calm_L1 (x5 : List Int) (x6 : Int) (s : Int) : Option (Int ⊕ Unit ⊕ Int) :=
  if decide (s < x6) then
    (getO x5 s).bind fun v9 =>
    if watch_Calm_2 v9 then
      some (Sum.inr (Sum.inr (s)))
    else
      some (Sum.inl (w64 (s + (1 : Int))))
  else
    some (Sum.inr (Sum.inl ()))
noncomputable def watch_Calm_L2 (x2 : List Wait) (x3 : Int) (s : Int) : Option (Int ⊕ Unit ⊕ Int) :=
  if decide (s < x3) then
    (getO x2 s).bind fun v6 =>
    if watch_Calm_1 v6 then
      some (Sum.inr (Sum.inr (s)))
    else
      some (Sum.inl (w64 (s + (1 : Int))))
  else
    some (Sum.inr (Sum.inl ()))
noncomputable def watch_Calm (p0 : Proto) : Option Bool :=
  (
    (proto_Right p0).bind fun v1 =>
    if !v1 then
      some (true)
    else
      some ((decide ((0 : Int) < (List.length (Pool.Frames (Proto.Pool p0)) : Int)))) : Option Bool).bind fun v1 =>
  if v1 then
    some (false)
  else
    (
      (
        let v3 : Int := (List.length (Proto.Wait p0) : Int)
        orExit (
          loopD (watch_Calm_L2 (Proto.Wait p0) v3) (0 : Int) : Option (Unit ⊕ Int)) fun v4 =>
        some ((-1 : Int)) : Option Int).bind fun v3 =>
      some ((decide ((0 : Int) ≤ v3))) : Option Bool).bind fun v3 =>
    (
      if !v3 then
        (
          (
            let v6 : Int := (List.length (Proto.Busy p0) : Int)
            orExit (
              loopD (watch_Calm_L1 (Proto.Busy p0) v6) (0 : Int) : Option (Unit ⊕ Int)) fun v7 =>
            some ((-1 : Int)) : Option Int).bind fun v6 =>
          some ((decide ((0 : Int) ≤ v6))) : Option Bool).bind fun v6 =>
        some ((!v6))
      else
        some (false) : Option Bool).bind fun v4 =>
    some (v4)
noncomputable def F_watch_Calm : FnT := ⟨[tProto], [.bool], fun x => watch_Calm x⟩
noncomputable def A_watch_Calm : TA :=
 .sub0 [.bool] (
  .call 77 F_proto_Right [.v 0] 1 <|
  .prim (.un .not) [.v 1] <|
  .ite (.v 2) (
   .jmp 0 false [.c (.bool true)]) (
   .prim (.fld 6) [.v 0] <|
   .prim (.fld 0) [.v 3] <|
   .prim .len [.v 4] <|
   .prim (.bin .gtr) [.v 5, .c (.int .i64 0)] <|
   .jmp 0 false [.v 6])) 1 <|
 .ite (.v 1) (
  .jmp 0 false [.c (.bool false)]) (
  .prim (.fld 2) [.v 0] <|
  .sub0 [.bool] (
   .sub0 [.int .i64] (
    .prim .len [.v 2] <|
    .sub1 [] (
     .loop [.int .i64] [.c (.int .i64 0)] (
      .prim (.bin .lss) [.v 4, .v 3] <|
      .ite (.v 5) (
       .prim .get [.v 2, .v 4] <|
       .callp 79 F_watch_Calm_1 [.v 6] 1 <|
       .ite (.v 7) (
        .jmp 2 false [.v 4]) (
        .prim (.bin .add) [.v 4, .c (.int .i64 1)] <|
        .jmp 0 true [.v 8])) (
       .jmp 1 false []))) 0 <|
    .jmp 0 false [.c (.int .i64 (-1))]) 1 <|
   .prim (.bin .geq) [.v 3, .c (.int .i64 0)] <|
   .jmp 0 false [.v 4]) 1 <|
  .sub0 [.bool] (
   .prim (.un .not) [.v 3] <|
   .ite (.v 4) (
    .prim (.fld 5) [.v 0] <|
    .sub0 [.bool] (
     .sub0 [.int .i64] (
      .prim .len [.v 5] <|
      .sub1 [] (
       .loop [.int .i64] [.c (.int .i64 0)] (
        .prim (.bin .lss) [.v 7, .v 6] <|
        .ite (.v 8) (
         .prim .get [.v 5, .v 7] <|
         .callp 80 F_watch_Calm_2 [.v 9] 1 <|
         .ite (.v 10) (
          .jmp 2 false [.v 7]) (
          .prim (.bin .add) [.v 7, .c (.int .i64 1)] <|
          .jmp 0 true [.v 11])) (
         .jmp 1 false []))) 0 <|
      .jmp 0 false [.c (.int .i64 (-1))]) 1 <|
     .prim (.bin .geq) [.v 6, .c (.int .i64 0)] <|
     .jmp 0 false [.v 7]) 1 <|
    .prim (.un .not) [.v 6] <|
    .jmp 0 false [.v 7]) (
    .jmp 0 false [.c (.bool false)])) 1 <|
  .jmp 0 false [.v 4])
theorem a_watch_Calm : treeOf cx 12 21 = some A_watch_Calm.erase := by kernel_rfl
theorem k_watch_Calm : FnOk cx 12 noC 21 F_watch_Calm := fn_ok (t := A_watch_Calm) a_watch_Calm (fun _ => rfl) (ok_of [(77, F_proto_Right), (79, F_watch_Calm_1.fn), (80, F_watch_Calm_2.fn)] (by kernel_rfl) (.cons k_proto_Right (.cons k_watch_Calm_1 (.cons k_watch_Calm_2 .nil)))) (fun x => by kernel_rfl)

/-! 69: backstay/watch.there -/
noncomputable def watch_there (p0 : Proto) (p1 : Int) : Option Bool :=
  (
    (proto_Right p0).bind fun v2 =>
    if v2 then
      if decide ((0 : Int) ≤ p1) then
        some ((decide (p1 < (List.length (Proto.Home p0) : Int))))
      else
        some (false)
    else
      some (false) : Option Bool).bind fun v2 =>
  some (v2)
noncomputable def F_watch_there : FnT := ⟨[tProto, .int .i64], [.bool], fun x => watch_there x.1 x.2⟩
noncomputable def A_watch_there : TA :=
 .sub0 [.bool] (
  .call 77 F_proto_Right [.v 0] 1 <|
  .ite (.v 2) (
   .prim (.bin .geq) [.v 1, .c (.int .i64 0)] <|
   .ite (.v 3) (
    .prim (.fld 3) [.v 0] <|
    .prim .len [.v 4] <|
    .prim (.bin .lss) [.v 1, .v 5] <|
    .jmp 0 false [.v 6]) (
    .jmp 0 false [.c (.bool false)])) (
   .jmp 0 false [.c (.bool false)])) 1 <|
 .jmp 0 false [.v 2]
theorem a_watch_there : treeOf cx 12 69 = some A_watch_there.erase := by kernel_rfl
theorem k_watch_there : FnOk cx 12 noC 69 F_watch_there := fn_ok (t := A_watch_there) a_watch_there (fun _ => rfl) (ok_of [(77, F_proto_Right)] (by kernel_rfl) (.cons k_proto_Right .nil)) (fun x => by kernel_rfl)

/-! 74: backstay/backstayref10.Has -/
noncomputable def r10_Has (p0 : Proto) (p1 : Int) (p2 : Int) (p3 : Bool) : Option Bool :=
  (
    (r10_there p0 p1 p2).bind fun v4 =>
    if !v4 then
      some (true)
    else
      (getO (Proto.Wait p0) p1).bind fun v7 =>
      some ((decide ((Wait.Line v7) = (w64 (p2 + (1 : Int)))))) : Option Bool).bind fun v4 =>
  if v4 then
    some (false)
  else
    (getO (Proto.State p0) p1).bind fun v6 =>
    (getO v6 p2).bind fun v7 =>
    some (((decide (v7 = (2 : Int))) || ((decide (v7 = (3 : Int))) || ((!p3) && (!decide (v7 = (0 : Int)))))))
noncomputable def F_r10_Has : FnT := ⟨[tProto, .int .i64, .int .i64, .bool], [.bool], fun x => r10_Has x.1 x.2.1 x.2.2.1 x.2.2.2⟩
noncomputable def A_r10_Has : TA :=
 .sub0 [.bool] (
  .call 119 F_r10_there [.v 0, .v 1, .v 2] 1 <|
  .prim (.un .not) [.v 4] <|
  .ite (.v 5) (
   .jmp 0 false [.c (.bool true)]) (
   .prim (.fld 2) [.v 0] <|
   .prim .get [.v 6, .v 1] <|
   .prim (.fld 0) [.v 7] <|
   .prim (.bin .add) [.v 2, .c (.int .i64 1)] <|
   .prim (.bin .eql) [.v 8, .v 9] <|
   .jmp 0 false [.v 10])) 1 <|
 .ite (.v 4) (
  .jmp 0 false [.c (.bool false)]) (
  .prim (.fld 0) [.v 0] <|
  .prim .get [.v 5, .v 1] <|
  .prim .get [.v 6, .v 2] <|
  .subp [.bool] (
   .prim (.bin .eql) [.v 7, .c (.int .i64 2)] <|
   .ite (.v 8) (
    .jmp 0 false [.c (.bool true)]) (
    .prim (.bin .eql) [.v 7, .c (.int .i64 3)] <|
    .ite (.v 9) (
     .jmp 0 false [.c (.bool true)]) (
     .prim (.un .not) [.v 3] <|
     .ite (.v 10) (
      .prim (.bin .neq) [.v 7, .c (.int .i64 0)] <|
      .jmp 0 false [.v 11]) (
      .jmp 0 false [.c (.bool false)])))) 1 <|
  .jmp 0 false [.v 8])
theorem a_r10_Has : treeOf cx 12 74 = some A_r10_Has.erase := by kernel_rfl
theorem k_r10_Has : FnOk cx 12 noC 74 F_r10_Has := fn_ok (t := A_r10_Has) a_r10_Has (fun _ => rfl) (ok_of [(119, F_r10_there)] (by kernel_rfl) (.cons k_r10_there .nil)) (fun x => by kernel_rfl)

/-! 82: backstay/proto.there -/
noncomputable def proto_there (p0 : Proto) (p1 : Int) (p2 : Int) : Option Bool :=
  (
    (proto_Right p0).bind fun v3 =>
    if v3 then
      if proto_within p1 (List.length (Proto.Wait p0) : Int) then
        some ((proto_within p2 (List.length (Proto.Home p0) : Int)))
      else
        some (false)
    else
      some (false) : Option Bool).bind fun v3 =>
  some (v3)
noncomputable def F_proto_there : FnT := ⟨[tProto, .int .i64, .int .i64], [.bool], fun x => proto_there x.1 x.2.1 x.2.2⟩
noncomputable def A_proto_there : TA :=
 .sub0 [.bool] (
  .call 77 F_proto_Right [.v 0] 1 <|
  .ite (.v 3) (
   .prim (.fld 2) [.v 0] <|
   .prim .len [.v 4] <|
   .callp 121 F_proto_within [.v 1, .v 5] 1 <|
   .ite (.v 6) (
    .prim (.fld 3) [.v 0] <|
    .prim .len [.v 7] <|
    .callp 121 F_proto_within [.v 2, .v 8] 1 <|
    .jmp 0 false [.v 9]) (
    .jmp 0 false [.c (.bool false)])) (
   .jmp 0 false [.c (.bool false)])) 1 <|
 .jmp 0 false [.v 3]
theorem a_proto_there : treeOf cx 12 82 = some A_proto_there.erase := by kernel_rfl
theorem k_proto_there : FnOk cx 12 noC 82 F_proto_there := fn_ok (t := A_proto_there) a_proto_there (fun _ => rfl) (ok_of [(77, F_proto_Right), (121, F_proto_within.fn), (121, F_proto_within.fn)] (by kernel_rfl) (.cons k_proto_Right (.cons k_proto_within (.cons k_proto_within .nil)))) (fun x => by kernel_rfl)

/-! 16: backstay/backstayref22.Alone -/
noncomputable def r22_Alone_L1 (x0 : Proto) (x1 : Int) (x4 : Int) (s : Int) : Option (Int ⊕ Unit ⊕ Int ⊕ Unit ⊕ Bool) :=
  if decide (s < (List.length (Proto.Wait x0) : Int)) then
    (
      if !decide (x4 = s) then
        (r10_Has x0 x4 x1 true).bind fun v13 =>
        if v13 then
          (r10_Has x0 s x1 false).bind fun v14 =>
          some (v14)
        else
          some (false)
      else
        some (false) : Option Bool).bind fun v12 =>
    if v12 then
      some (Sum.inr (Sum.inr (Sum.inr (Sum.inr (false)))))
    else
      some (Sum.inl (w64 (s + (1 : Int))))
  else
    some (Sum.inr (Sum.inl ()))
noncomputable def r22_Alone_L2 (x0 : Proto) (x1 : Int) (s : Int) : Option (Int ⊕ Unit ⊕ Bool) :=
  if decide (s < (List.length (Proto.Wait x0) : Int)) then
    orExit (
      loopD (r22_Alone_L1 x0 x1 s) (0 : Int) : Option (Unit ⊕ Int ⊕ Unit ⊕ Bool)) fun v8 =>
    some (Sum.inl (w64 (s + (1 : Int))))
  else
    some (Sum.inr (Sum.inl ()))
noncomputable def r22_Alone (p0 : Proto) (p1 : Int) : Option Bool :=
  (r22_there p0 p1).bind fun v2 =>
  if !v2 then
    some (false)
  else
    orExit (
      loopD (r22_Alone_L2 p0 p1) (0 : Int) : Option (Unit ⊕ Bool)) fun v4 =>
    some (true)
noncomputable def F_r22_Alone : FnT := ⟨[tProto, .int .i64], [.bool], fun x => r22_Alone x.1 x.2⟩
noncomputable def A_r22_Alone : TA :=
 .call 73 F_r22_there [.v 0, .v 1] 1 <|
 .prim (.un .not) [.v 2] <|
 .ite (.v 3) (
  .jmp 0 false [.c (.bool false)]) (
  .sub1 [] (
   .loop [.int .i64] [.c (.int .i64 0)] (
    .prim (.fld 2) [.v 0] <|
    .prim .len [.v 5] <|
    .prim (.bin .lss) [.v 4, .v 6] <|
    .ite (.v 7) (
     .sub1 [] (
      .loop [.int .i64] [.c (.int .i64 0)] (
       .prim (.fld 2) [.v 0] <|
       .prim .len [.v 9] <|
       .prim (.bin .lss) [.v 8, .v 10] <|
       .ite (.v 11) (
        .sub0 [.bool] (
         .prim (.bin .neq) [.v 4, .v 8] <|
         .ite (.v 12) (
          .call 74 F_r10_Has [.v 0, .v 4, .v 1, .c (.bool true)] 1 <|
          .ite (.v 13) (
           .call 74 F_r10_Has [.v 0, .v 8, .v 1, .c (.bool false)] 1 <|
           .jmp 0 false [.v 14]) (
           .jmp 0 false [.c (.bool false)])) (
          .jmp 0 false [.c (.bool false)])) 1 <|
        .ite (.v 12) (
         .jmp 4 false [.c (.bool false)]) (
         .prim (.bin .add) [.v 8, .c (.int .i64 1)] <|
         .jmp 0 true [.v 13])) (
        .jmp 1 false []))) 0 <|
     .prim (.bin .add) [.v 4, .c (.int .i64 1)] <|
     .jmp 0 true [.v 8]) (
     .jmp 1 false []))) 0 <|
  .jmp 0 false [.c (.bool true)])
theorem a_r22_Alone : treeOf cx 12 16 = some A_r22_Alone.erase := by kernel_rfl
theorem k_r22_Alone : FnOk cx 12 noC 16 F_r22_Alone := fn_ok (t := A_r22_Alone) a_r22_Alone (fun _ => rfl) (ok_of [(73, F_r22_there), (74, F_r10_Has), (74, F_r10_Has)] (by kernel_rfl) (.cons k_r22_there (.cons k_r10_Has (.cons k_r10_Has .nil)))) (fun x => by kernel_rfl)

/-! 18: backstay/backstayref22.Alike -/
noncomputable def r22_Alike_L1 (x0 : Proto) (x1 : Int) (x4 : Int) (s : Int) : Option (Int ⊕ Unit ⊕ Int ⊕ Unit ⊕ Bool) :=
  if decide (s < x4) then
    (
      (r10_Has x0 x4 x1 false).bind fun v10 =>
      if v10 then
        (r10_Has x0 s x1 false).bind fun v11 =>
        if v11 then
          (getO (Proto.Val x0) x4).bind fun v13 =>
          (getO v13 x1).bind fun v14 =>
          (getO (Proto.Val x0) s).bind fun v16 =>
          (getO v16 x1).bind fun v17 =>
          some ((!decide (v14 = v17)))
        else
          some (false)
      else
        some (false) : Option Bool).bind fun v10 =>
    if v10 then
      some (Sum.inr (Sum.inr (Sum.inr (Sum.inr (false)))))
    else
      some (Sum.inl (w64 (s + (1 : Int))))
  else
    some (Sum.inr (Sum.inl ()))
noncomputable def r22_Alike_L2 (x0 : Proto) (x1 : Int) (s : Int) : Option (Int ⊕ Unit ⊕ Bool) :=
  if decide (s < (List.length (Proto.Wait x0) : Int)) then
    orExit (
      loopD (r22_Alike_L1 x0 x1 s) (0 : Int) : Option (Unit ⊕ Int ⊕ Unit ⊕ Bool)) fun v8 =>
    some (Sum.inl (w64 (s + (1 : Int))))
  else
    some (Sum.inr (Sum.inl ()))
noncomputable def r22_Alike (p0 : Proto) (p1 : Int) : Option Bool :=
  (r22_there p0 p1).bind fun v2 =>
  if !v2 then
    some (false)
  else
    orExit (
      loopD (r22_Alike_L2 p0 p1) (0 : Int) : Option (Unit ⊕ Bool)) fun v4 =>
    some (true)
noncomputable def F_r22_Alike : FnT := ⟨[tProto, .int .i64], [.bool], fun x => r22_Alike x.1 x.2⟩
noncomputable def A_r22_Alike : TA :=
 .call 73 F_r22_there [.v 0, .v 1] 1 <|
 .prim (.un .not) [.v 2] <|
 .ite (.v 3) (
  .jmp 0 false [.c (.bool false)]) (
  .sub1 [] (
   .loop [.int .i64] [.c (.int .i64 0)] (
    .prim (.fld 2) [.v 0] <|
    .prim .len [.v 5] <|
    .prim (.bin .lss) [.v 4, .v 6] <|
    .ite (.v 7) (
     .sub1 [] (
      .loop [.int .i64] [.c (.int .i64 0)] (
       .prim (.bin .lss) [.v 8, .v 4] <|
       .ite (.v 9) (
        .sub0 [.bool] (
         .call 74 F_r10_Has [.v 0, .v 4, .v 1, .c (.bool false)] 1 <|
         .ite (.v 10) (
          .call 74 F_r10_Has [.v 0, .v 8, .v 1, .c (.bool false)] 1 <|
          .ite (.v 11) (
           .prim (.fld 1) [.v 0] <|
           .prim .get [.v 12, .v 4] <|
           .prim .get [.v 13, .v 1] <|
           .prim (.fld 1) [.v 0] <|
           .prim .get [.v 15, .v 8] <|
           .prim .get [.v 16, .v 1] <|
           .prim (.bin .neq) [.v 14, .v 17] <|
           .jmp 0 false [.v 18]) (
           .jmp 0 false [.c (.bool false)])) (
          .jmp 0 false [.c (.bool false)])) 1 <|
        .ite (.v 10) (
         .jmp 4 false [.c (.bool false)]) (
         .prim (.bin .add) [.v 8, .c (.int .i64 1)] <|
         .jmp 0 true [.v 11])) (
        .jmp 1 false []))) 0 <|
     .prim (.bin .add) [.v 4, .c (.int .i64 1)] <|
     .jmp 0 true [.v 8]) (
     .jmp 1 false []))) 0 <|
  .jmp 0 false [.c (.bool true)])
theorem a_r22_Alike : treeOf cx 12 18 = some A_r22_Alike.erase := by kernel_rfl
theorem k_r22_Alike : FnOk cx 12 noC 18 F_r22_Alike := fn_ok (t := A_r22_Alike) a_r22_Alike (fun _ => rfl) (ok_of [(73, F_r22_there), (74, F_r10_Has), (74, F_r10_Has)] (by kernel_rfl) (.cons k_r22_there (.cons k_r10_Has (.cons k_r10_Has .nil)))) (fun x => by kernel_rfl)

/-! 19: backstay/watch.Known -/
noncomputable def watch_Known_L1 (x0 : Proto) (x1 : Int) (x7 : Int) (s : Int) : Option (Int ⊕ Unit ⊕ Bool) :=
  if decide (s < x7) then
    (watch_fits x0 s x1).bind fun v10 =>
    if !v10 then
      some (Sum.inr (Sum.inr (false)))
    else
      some (Sum.inl (w64 (s + (1 : Int))))
  else
    some (Sum.inr (Sum.inl ()))
noncomputable def watch_Known (p0 : Proto) (p1 : Int) : Option Bool :=
  (watch_there p0 p1).bind fun v2 =>
  if !v2 then
    some (false)
  else
    (watch_Calm p0).bind fun v4 =>
    if !v4 then
      some (true)
    else
      let v7 : Int := (List.length (Proto.State p0) : Int)
      orExit (
        loopD (watch_Known_L1 p0 p1 v7) (0 : Int) : Option (Unit ⊕ Bool)) fun v8 =>
      some (true)
noncomputable def F_watch_Known : FnT := ⟨[tProto, .int .i64], [.bool], fun x => watch_Known x.1 x.2⟩
noncomputable def A_watch_Known : TA :=
 .call 69 F_watch_there [.v 0, .v 1] 1 <|
 .prim (.un .not) [.v 2] <|
 .ite (.v 3) (
  .jmp 0 false [.c (.bool false)]) (
  .call 21 F_watch_Calm [.v 0] 1 <|
  .prim (.un .not) [.v 4] <|
  .ite (.v 5) (
   .jmp 0 false [.c (.bool true)]) (
   .prim (.fld 0) [.v 0] <|
   .prim .len [.v 6] <|
   .sub1 [] (
    .loop [.int .i64] [.c (.int .i64 0)] (
     .prim (.bin .lss) [.v 8, .v 7] <|
     .ite (.v 9) (
      .call 76 F_watch_fits [.v 0, .v 8, .v 1] 1 <|
      .prim (.un .not) [.v 10] <|
      .ite (.v 11) (
       .jmp 2 false [.c (.bool false)]) (
       .prim (.bin .add) [.v 8, .c (.int .i64 1)] <|
       .jmp 0 true [.v 12])) (
      .jmp 1 false []))) 0 <|
   .jmp 0 false [.c (.bool true)]))
theorem a_watch_Known : treeOf cx 12 19 = some A_watch_Known.erase := by kernel_rfl
theorem k_watch_Known : FnOk cx 12 noC 19 F_watch_Known := fn_ok (t := A_watch_Known) a_watch_Known (fun _ => rfl) (ok_of [(69, F_watch_there), (21, F_watch_Calm), (76, F_watch_fits)] (by kernel_rfl) (.cons k_watch_there (.cons k_watch_Calm (.cons k_watch_fits .nil)))) (fun x => by kernel_rfl)

/-! 27: backstay/backstayref22.Who -/
noncomputable def r22_Who_L1 (x0 : Proto) (x1 : Int) (s : (Int × (List Int))) : Option ((Int × (List Int)) ⊕ (List Int)) :=
  if decide (s.1 < (List.length (Proto.Wait x0) : Int)) then
    (r10_Has x0 s.1 x1 false).bind fun v7 =>
    (
      if v7 then
        (appO 8 s.2 ([s.1] : List Int)).bind fun v9 =>
        some (v9)
      else
        some (s.2) : Option (List Int)).bind fun v8 =>
    some (Sum.inl (w64 (s.1 + (1 : Int)), v8))
  else
    some (Sum.inr (s.2))
noncomputable def r22_Who (p0 : Proto) (p1 : Int) : Option (List Int) :=
  (
    loopD (r22_Who_L1 p0 p1) ((0 : Int), ([] : List Int)) : Option (List Int)).bind fun v2 =>
  some (v2)
noncomputable def F_r22_Who : FnT := ⟨[tProto, .int .i64], [.sl (.int .i64)], fun x => r22_Who x.1 x.2⟩
noncomputable def A_r22_Who : TA :=
 .sub0 [.sl (.int .i64)] (
  .loop [.int .i64, .sl (.int .i64)] [.c (.int .i64 0), .c .nil] (
   .prim (.fld 2) [.v 0] <|
   .prim .len [.v 4] <|
   .prim (.bin .lss) [.v 2, .v 5] <|
   .ite (.v 6) (
    .call 74 F_r10_Has [.v 0, .v 2, .v 1, .c (.bool false)] 1 <|
    .sub0 [.sl (.int .i64)] (
     .ite (.v 7) (
      .mkL (.int .i64) [.v 2] <|
      .prim (.app 8) [.v 3, .v 8] <|
      .jmp 0 false [.v 9]) (
      .jmp 0 false [.v 3])) 1 <|
    .prim (.bin .add) [.v 2, .c (.int .i64 1)] <|
    .jmp 0 true [.v 9, .v 8]) (
    .jmp 1 false [.v 3]))) 1 <|
 .jmp 0 false [.v 2]
theorem a_r22_Who : treeOf cx 12 27 = some A_r22_Who.erase := by kernel_rfl
theorem k_r22_Who : FnOk cx 12 noC 27 F_r22_Who := fn_ok (t := A_r22_Who) a_r22_Who (fun _ => rfl) (ok_of [(74, F_r10_Has)] (by kernel_rfl) (.cons k_r10_Has .nil)) (fun x => by kernel_rfl)

/-! 28: backstay/proto.Get -/
noncomputable def proto_Get (p0 : Proto) (p1 : Int) (p2 : Int) : Option (Int × Int) :=
  (proto_there p0 p1 p2).bind fun v3 =>
  if !v3 then
    some (((0 : Int), (1 : Int)))
  else
    (proto_has p0 p1 p2 false).bind fun v5 =>
    if !v5 then
      some (((0 : Int), (8 : Int)))
    else
      (getO (Proto.Val p0) p1).bind fun v8 =>
      (getO v8 p2).bind fun v9 =>
      some ((v9, (0 : Int)))
noncomputable def F_proto_Get : FnT := ⟨[tProto, .int .i64, .int .i64], [.int .u32, .int .i64], fun x => proto_Get x.1 x.2.1 x.2.2⟩
noncomputable def A_proto_Get : TA :=
 .call 82 F_proto_there [.v 0, .v 1, .v 2] 1 <|
 .prim (.un .not) [.v 3] <|
 .ite (.v 4) (
  .jmp 0 false [.c (.int .u32 0), .c (.int .i64 1)]) (
  .call 83 F_proto_has [.v 0, .v 1, .v 2, .c (.bool false)] 1 <|
  .prim (.un .not) [.v 5] <|
  .ite (.v 6) (
   .jmp 0 false [.c (.int .u32 0), .c (.int .i64 8)]) (
   .prim (.fld 1) [.v 0] <|
   .prim .get [.v 7, .v 1] <|
   .prim .get [.v 8, .v 2] <|
   .jmp 0 false [.v 9, .c (.int .i64 0)]))
theorem a_proto_Get : treeOf cx 12 28 = some A_proto_Get.erase := by kernel_rfl
theorem k_proto_Get : FnOk cx 12 noC 28 F_proto_Get := fn_ok (t := A_proto_Get) a_proto_Get (fun _ => rfl) (ok_of [(82, F_proto_there), (83, F_proto_has)] (by kernel_rfl) (.cons k_proto_there (.cons k_proto_has .nil))) (fun x => by kernel_rfl)

/-! 71: backstay/proto.Has -/
noncomputable def proto_Has (p0 : Proto) (p1 : Int) (p2 : Int) (p3 : Bool) : Option Bool :=
  (
    (proto_there p0 p1 p2).bind fun v4 =>
    if v4 then
      (proto_has p0 p1 p2 p3).bind fun v5 =>
      some (v5)
    else
      some (false) : Option Bool).bind fun v4 =>
  some (v4)
noncomputable def F_proto_Has : FnT := ⟨[tProto, .int .i64, .int .i64, .bool], [.bool], fun x => proto_Has x.1 x.2.1 x.2.2.1 x.2.2.2⟩
noncomputable def A_proto_Has : TA :=
 .sub0 [.bool] (
  .call 82 F_proto_there [.v 0, .v 1, .v 2] 1 <|
  .ite (.v 4) (
   .call 83 F_proto_has [.v 0, .v 1, .v 2, .v 3] 1 <|
   .jmp 0 false [.v 5]) (
   .jmp 0 false [.c (.bool false)])) 1 <|
 .jmp 0 false [.v 4]
theorem a_proto_Has : treeOf cx 12 71 = some A_proto_Has.erase := by kernel_rfl
theorem k_proto_Has : FnOk cx 12 noC 71 F_proto_Has := fn_ok (t := A_proto_Has) a_proto_Has (fun _ => rfl) (ok_of [(82, F_proto_there), (83, F_proto_has)] (by kernel_rfl) (.cons k_proto_there (.cons k_proto_has .nil))) (fun x => by kernel_rfl)

/-! 24: backstay/backstayref22.All -/
noncomputable def r22_All_L1 (x0 : Proto) (s : Int) : Option (Int ⊕ Unit ⊕ Bool) :=
  if decide (s < (List.length (Proto.Home x0) : Int)) then
    (
      (r22_Alone x0 s).bind fun v7 =>
      if !v7 then
        some (true)
      else
        (r22_Alike x0 s).bind fun v9 =>
        if !v9 then
          some (true)
        else
          (r22_Known x0 s).bind fun v11 =>
          some ((!v11)) : Option Bool).bind fun v7 =>
    if v7 then
      some (Sum.inr (Sum.inr (false)))
    else
      some (Sum.inl (w64 (s + (1 : Int))))
  else
    some (Sum.inr (Sum.inl ()))
noncomputable def r22_All (p0 : Proto) : Option Bool :=
  (r10_Right p0).bind fun v1 =>
  if !v1 then
    some (false)
  else
    orExit (
      loopD (r22_All_L1 p0) (0 : Int) : Option (Unit ⊕ Bool)) fun v3 =>
    some (true)
noncomputable def F_r22_All : FnT := ⟨[tProto], [.bool], fun x => r22_All x⟩
noncomputable def A_r22_All : TA :=
 .call 81 F_r10_Right [.v 0] 1 <|
 .prim (.un .not) [.v 1] <|
 .ite (.v 2) (
  .jmp 0 false [.c (.bool false)]) (
  .sub1 [] (
   .loop [.int .i64] [.c (.int .i64 0)] (
    .prim (.fld 3) [.v 0] <|
    .prim .len [.v 4] <|
    .prim (.bin .lss) [.v 3, .v 5] <|
    .ite (.v 6) (
     .sub0 [.bool] (
      .call 16 F_r22_Alone [.v 0, .v 3] 1 <|
      .prim (.un .not) [.v 7] <|
      .ite (.v 8) (
       .jmp 0 false [.c (.bool true)]) (
       .call 18 F_r22_Alike [.v 0, .v 3] 1 <|
       .prim (.un .not) [.v 9] <|
       .ite (.v 10) (
        .jmp 0 false [.c (.bool true)]) (
        .call 20 F_r22_Known [.v 0, .v 3] 1 <|
        .prim (.un .not) [.v 11] <|
        .jmp 0 false [.v 12]))) 1 <|
     .ite (.v 7) (
      .jmp 2 false [.c (.bool false)]) (
      .prim (.bin .add) [.v 3, .c (.int .i64 1)] <|
      .jmp 0 true [.v 8])) (
     .jmp 1 false []))) 0 <|
  .jmp 0 false [.c (.bool true)])
theorem a_r22_All : treeOf cx 12 24 = some A_r22_All.erase := by kernel_rfl
theorem k_r22_All : FnOk cx 12 noC 24 F_r22_All := fn_ok (t := A_r22_All) a_r22_All (fun _ => rfl) (ok_of [(81, F_r10_Right), (16, F_r22_Alone), (18, F_r22_Alike), (20, F_r22_Known)] (by kernel_rfl) (.cons k_r10_Right (.cons k_r22_Alone (.cons k_r22_Alike (.cons k_r22_Known .nil))))) (fun x => by kernel_rfl)

/-! 26: backstay/watch.Who -/
noncomputable def watch_Who_L1 (x0 : Proto) (x1 : Int) (x3 : Int) (s : (Int × (List Int))) : Option ((Int × (List Int)) ⊕ (List Int)) :=
  if decide (s.1 < x3) then
    (proto_Has x0 s.1 x1 false).bind fun v7 =>
    (
      if v7 then
        (appO 8 s.2 ([s.1] : List Int)).bind fun v9 =>
        some (v9)
      else
        some (s.2) : Option (List Int)).bind fun v8 =>
    some (Sum.inl (w64 (s.1 + (1 : Int)), v8))
  else
    some (Sum.inr (s.2))
noncomputable def watch_Who (p0 : Proto) (p1 : Int) : Option (List Int) :=
  let v3 : Int := (List.length (Proto.Wait p0) : Int)
  (
    loopD (watch_Who_L1 p0 p1 v3) ((0 : Int), ([] : List Int)) : Option (List Int)).bind fun v4 =>
  some (v4)
noncomputable def F_watch_Who : FnT := ⟨[tProto, .int .i64], [.sl (.int .i64)], fun x => watch_Who x.1 x.2⟩
noncomputable def A_watch_Who : TA :=
 .prim (.fld 2) [.v 0] <|
 .prim .len [.v 2] <|
 .sub0 [.sl (.int .i64)] (
  .loop [.int .i64, .sl (.int .i64)] [.c (.int .i64 0), .c .nil] (
   .prim (.bin .lss) [.v 4, .v 3] <|
   .ite (.v 6) (
    .call 71 F_proto_Has [.v 0, .v 4, .v 1, .c (.bool false)] 1 <|
    .sub0 [.sl (.int .i64)] (
     .ite (.v 7) (
      .mkL (.int .i64) [.v 4] <|
      .prim (.app 8) [.v 5, .v 8] <|
      .jmp 0 false [.v 9]) (
      .jmp 0 false [.v 5])) 1 <|
    .prim (.bin .add) [.v 4, .c (.int .i64 1)] <|
    .jmp 0 true [.v 9, .v 8]) (
    .jmp 1 false [.v 5]))) 1 <|
 .jmp 0 false [.v 4]
theorem a_watch_Who : treeOf cx 12 26 = some A_watch_Who.erase := by kernel_rfl
theorem k_watch_Who : FnOk cx 12 noC 26 F_watch_Who := fn_ok (t := A_watch_Who) a_watch_Who (fun _ => rfl) (ok_of [(71, F_proto_Has)] (by kernel_rfl) (.cons k_proto_Has .nil)) (fun x => by kernel_rfl)

/-! 15: backstay/watch.Alone -/
noncomputable def watch_Alone_L1 (x0 : Proto) (x1 : Int) (x4 : List Int) (x7 : Int) (s : Int) : Option (Int ⊕ Unit ⊕ Int) :=
  if decide (s < x7) then
    (getO x4 s).bind fun v10 =>
    (
      (proto_Has x0 v10 x1 true).bind fun v11 =>
      some (v11) : Option Bool).bind fun v11 =>
    if v11 then
      some (Sum.inr (Sum.inr (s)))
    else
      some (Sum.inl (w64 (s + (1 : Int))))
  else
    some (Sum.inr (Sum.inl ()))
noncomputable def watch_Alone (p0 : Proto) (p1 : Int) : Option Bool :=
  (watch_there p0 p1).bind fun v2 =>
  if !v2 then
    some (false)
  else
    (watch_Who p0 p1).bind fun v4 =>
    (
      if decide ((List.length v4 : Int) < (2 : Int)) then
        some (true)
      else
        (
          (
            let v7 : Int := (List.length v4 : Int)
            orExit (
              loopD (watch_Alone_L1 p0 p1 v4 v7) (0 : Int) : Option (Unit ⊕ Int)) fun v8 =>
            some ((-1 : Int)) : Option Int).bind fun v7 =>
          some ((decide ((0 : Int) ≤ v7))) : Option Bool).bind fun v7 =>
        some ((!v7)) : Option Bool).bind fun v5 =>
    some (v5)
noncomputable def F_watch_Alone : FnT := ⟨[tProto, .int .i64], [.bool], fun x => watch_Alone x.1 x.2⟩
noncomputable def A_watch_Alone : TA :=
 .call 69 F_watch_there [.v 0, .v 1] 1 <|
 .prim (.un .not) [.v 2] <|
 .ite (.v 3) (
  .jmp 0 false [.c (.bool false)]) (
  .call 26 F_watch_Who [.v 0, .v 1] 1 <|
  .sub0 [.bool] (
   .prim .len [.v 4] <|
   .prim (.bin .lss) [.v 5, .c (.int .i64 2)] <|
   .ite (.v 6) (
    .jmp 0 false [.c (.bool true)]) (
    .sub0 [.bool] (
     .sub0 [.int .i64] (
      .prim .len [.v 4] <|
      .sub1 [] (
       .loop [.int .i64] [.c (.int .i64 0)] (
        .prim (.bin .lss) [.v 8, .v 7] <|
        .ite (.v 9) (
         .prim .get [.v 4, .v 8] <|
         .sub0 [.bool] (
          .call 71 F_proto_Has [.v 0, .v 10, .v 1, .c (.bool true)] 1 <|
          .jmp 0 false [.v 11]) 1 <|
         .ite (.v 11) (
          .jmp 2 false [.v 8]) (
          .prim (.bin .add) [.v 8, .c (.int .i64 1)] <|
          .jmp 0 true [.v 12])) (
         .jmp 1 false []))) 0 <|
      .jmp 0 false [.c (.int .i64 (-1))]) 1 <|
     .prim (.bin .geq) [.v 7, .c (.int .i64 0)] <|
     .jmp 0 false [.v 8]) 1 <|
    .prim (.un .not) [.v 7] <|
    .jmp 0 false [.v 8])) 1 <|
  .jmp 0 false [.v 5])
theorem a_watch_Alone : treeOf cx 12 15 = some A_watch_Alone.erase := by kernel_rfl
theorem k_watch_Alone : FnOk cx 12 noC 15 F_watch_Alone := fn_ok (t := A_watch_Alone) a_watch_Alone (fun _ => rfl) (ok_of [(69, F_watch_there), (26, F_watch_Who), (71, F_proto_Has)] (by kernel_rfl) (.cons k_watch_there (.cons k_watch_Who (.cons k_proto_Has .nil)))) (fun x => by kernel_rfl)

/-! 17: backstay/watch.Alike -/
noncomputable def watch_Alike_L1 (x0 : Proto) (x1 : Int) (x4 : List Int) (x5 : Int) (s : Int) : Option (Int ⊕ Unit ⊕ Int) :=
  if decide (s < x5) then
    (getO x4 s).bind fun v8 =>
    (
      (getO (Proto.Val x0) v8).bind fun v10 =>
      (getO v10 x1).bind fun v11 =>
      (getO x4 (0 : Int)).bind fun v13 =>
      (getO (Proto.Val x0) v13).bind fun v14 =>
      (getO v14 x1).bind fun v15 =>
      some ((!decide (v11 = v15))) : Option Bool).bind fun v9 =>
    if v9 then
      some (Sum.inr (Sum.inr (s)))
    else
      some (Sum.inl (w64 (s + (1 : Int))))
  else
    some (Sum.inr (Sum.inl ()))
noncomputable def watch_Alike (p0 : Proto) (p1 : Int) : Option Bool :=
  (watch_there p0 p1).bind fun v2 =>
  if !v2 then
    some (false)
  else
    (watch_Who p0 p1).bind fun v4 =>
    (
      (
        let v5 : Int := (List.length v4 : Int)
        orExit (
          loopD (watch_Alike_L1 p0 p1 v4 v5) (0 : Int) : Option (Unit ⊕ Int)) fun v6 =>
        some ((-1 : Int)) : Option Int).bind fun v5 =>
      some ((decide ((0 : Int) ≤ v5))) : Option Bool).bind fun v5 =>
    some ((!v5))
noncomputable def F_watch_Alike : FnT := ⟨[tProto, .int .i64], [.bool], fun x => watch_Alike x.1 x.2⟩
noncomputable def A_watch_Alike : TA :=
 .call 69 F_watch_there [.v 0, .v 1] 1 <|
 .prim (.un .not) [.v 2] <|
 .ite (.v 3) (
  .jmp 0 false [.c (.bool false)]) (
  .call 26 F_watch_Who [.v 0, .v 1] 1 <|
  .sub0 [.bool] (
   .sub0 [.int .i64] (
    .prim .len [.v 4] <|
    .sub1 [] (
     .loop [.int .i64] [.c (.int .i64 0)] (
      .prim (.bin .lss) [.v 6, .v 5] <|
      .ite (.v 7) (
       .prim .get [.v 4, .v 6] <|
       .sub0 [.bool] (
        .prim (.fld 1) [.v 0] <|
        .prim .get [.v 9, .v 8] <|
        .prim .get [.v 10, .v 1] <|
        .prim (.fld 1) [.v 0] <|
        .prim .get [.v 4, .c (.int .i64 0)] <|
        .prim .get [.v 12, .v 13] <|
        .prim .get [.v 14, .v 1] <|
        .prim (.bin .neq) [.v 11, .v 15] <|
        .jmp 0 false [.v 16]) 1 <|
       .ite (.v 9) (
        .jmp 2 false [.v 6]) (
        .prim (.bin .add) [.v 6, .c (.int .i64 1)] <|
        .jmp 0 true [.v 10])) (
       .jmp 1 false []))) 0 <|
    .jmp 0 false [.c (.int .i64 (-1))]) 1 <|
   .prim (.bin .geq) [.v 5, .c (.int .i64 0)] <|
   .jmp 0 false [.v 6]) 1 <|
  .prim (.un .not) [.v 5] <|
  .jmp 0 false [.v 6])
theorem a_watch_Alike : treeOf cx 12 17 = some A_watch_Alike.erase := by kernel_rfl
theorem k_watch_Alike : FnOk cx 12 noC 17 F_watch_Alike := fn_ok (t := A_watch_Alike) a_watch_Alike (fun _ => rfl) (ok_of [(69, F_watch_there), (26, F_watch_Who)] (by kernel_rfl) (.cons k_watch_there (.cons k_watch_Who .nil))) (fun x => by kernel_rfl)

/-! 23: backstay/watch.All -/
noncomputable def watch_All_L1 (x0 : Proto) (x2 : Int) (s : Int) : Option (Int ⊕ Unit ⊕ Bool) :=
  if decide (s < x2) then
    (
      (watch_Alone x0 s).bind fun v5 =>
      if !v5 then
        some (true)
      else
        (watch_Alike x0 s).bind fun v7 =>
        if !v7 then
          some (true)
        else
          (watch_Known x0 s).bind fun v9 =>
          some ((!v9)) : Option Bool).bind fun v5 =>
    if v5 then
      some (Sum.inr (Sum.inr (false)))
    else
      some (Sum.inl (w64 (s + (1 : Int))))
  else
    some (Sum.inr (Sum.inl ()))
noncomputable def watch_All (p0 : Proto) : Option Bool :=
  let v2 : Int := (List.length (Proto.Home p0) : Int)
  orExit (
    loopD (watch_All_L1 p0 v2) (0 : Int) : Option (Unit ⊕ Bool)) fun v3 =>
  (proto_Right p0).bind fun v3 =>
  some (v3)
noncomputable def F_watch_All : FnT := ⟨[tProto], [.bool], fun x => watch_All x⟩
noncomputable def A_watch_All : TA :=
 .prim (.fld 3) [.v 0] <|
 .prim .len [.v 1] <|
 .sub1 [] (
  .loop [.int .i64] [.c (.int .i64 0)] (
   .prim (.bin .lss) [.v 3, .v 2] <|
   .ite (.v 4) (
    .sub0 [.bool] (
     .call 15 F_watch_Alone [.v 0, .v 3] 1 <|
     .prim (.un .not) [.v 5] <|
     .ite (.v 6) (
      .jmp 0 false [.c (.bool true)]) (
      .call 17 F_watch_Alike [.v 0, .v 3] 1 <|
      .prim (.un .not) [.v 7] <|
      .ite (.v 8) (
       .jmp 0 false [.c (.bool true)]) (
       .call 19 F_watch_Known [.v 0, .v 3] 1 <|
       .prim (.un .not) [.v 9] <|
       .jmp 0 false [.v 10]))) 1 <|
    .ite (.v 5) (
     .jmp 2 false [.c (.bool false)]) (
     .prim (.bin .add) [.v 3, .c (.int .i64 1)] <|
     .jmp 0 true [.v 6])) (
    .jmp 1 false []))) 0 <|
 .call 77 F_proto_Right [.v 0] 1 <|
 .jmp 0 false [.v 3]
theorem a_watch_All : treeOf cx 12 23 = some A_watch_All.erase := by kernel_rfl
theorem k_watch_All : FnOk cx 12 noC 23 F_watch_All := fn_ok (t := A_watch_All) a_watch_All (fun _ => rfl) (ok_of [(15, F_watch_Alone), (17, F_watch_Alike), (19, F_watch_Known), (77, F_proto_Right)] (by kernel_rfl) (.cons k_watch_Alone (.cons k_watch_Alike (.cons k_watch_Known (.cons k_proto_Right .nil))))) (fun x => by kernel_rfl)

/-! 13: backstay/backstaylaw22.awake -/
def l22_awake : Bool := true
def F_l22_awake : PnT := ⟨[], [.bool], fun _ => l22_awake⟩
theorem k_l22_awake : FnOk cx 12 noC 13 F_l22_awake.fn := fun ds x r hx hr => by
  have hx : ds = [] := hx
  subst hx
  exact ⟨[.bool true], call_now 100 12 (by kernel_rfl), .bool true, rfl, congrArg D.bool (Option.some.inj hr)⟩

end Go.Proofs.Ytihchahfnhoapaa
