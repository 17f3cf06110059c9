/- The types of this cut, and its functions as functions of plain typed data. Printed by a program of this claim's prover; each is checked here to be what the executor makes of the code. -/
import Derived.Test.YtihchahfnhoapaaProg
import Derived.Test.YtihchahfnhoapaaLim
import Derived.KernelRfl
set_option linter.unusedVariables false
set_option maxRecDepth 100000
namespace Go.Proofs.Ytihchahfnhoapaa
open Go.SX
abbrev tsIns : List Ty := [.int .i64, .int .i64, .int .i64, .int .i64, .int .u32]
abbrev tIns : Ty := .st tsIns
abbrev Ins : Type := Int × Int × Int × Int × Int
def Ins.mk (Op : Int) (A : Int) (B : Int) (C : Int) (K : Int) : Ins := (Op, A, B, C, K)
def Ins.Op (x : Ins) : Int := x.1
def Ins.A (x : Ins) : Int := x.2.1
def Ins.B (x : Ins) : Int := x.2.2.1
def Ins.C (x : Ins) : Int := x.2.2.2.1
def Ins.K (x : Ins) : Int := x.2.2.2.2
@[simp] theorem Ins.Op_mk (Op : Int) (A : Int) (B : Int) (C : Int) (K : Int) : Ins.Op (Ins.mk Op A B C K) = Op := rfl
@[simp] theorem Ins.A_mk (Op : Int) (A : Int) (B : Int) (C : Int) (K : Int) : Ins.A (Ins.mk Op A B C K) = A := rfl
@[simp] theorem Ins.B_mk (Op : Int) (A : Int) (B : Int) (C : Int) (K : Int) : Ins.B (Ins.mk Op A B C K) = B := rfl
@[simp] theorem Ins.C_mk (Op : Int) (A : Int) (B : Int) (C : Int) (K : Int) : Ins.C (Ins.mk Op A B C K) = C := rfl
@[simp] theorem Ins.K_mk (Op : Int) (A : Int) (B : Int) (C : Int) (K : Int) : Ins.K (Ins.mk Op A B C K) = K := rfl
@[simp] theorem Ins.eta (x : Ins) : Ins.mk (Ins.Op x) (Ins.A x) (Ins.B x) (Ins.C x) (Ins.K x) = x := rfl

abbrev tsDeed : List Ty := [.int .i64, .int .i64, .int .i64, .int .u32, .int .u32]
abbrev tDeed : Ty := .st tsDeed
abbrev Deed : Type := Int × Int × Int × Int × Int
def Deed.mk (Core : Int) (Kind : Int) (At : Int) (Was : Int) (Val : Int) : Deed := (Core, Kind, At, Was, Val)
def Deed.Core (x : Deed) : Int := x.1
def Deed.Kind (x : Deed) : Int := x.2.1
def Deed.At (x : Deed) : Int := x.2.2.1
def Deed.Was (x : Deed) : Int := x.2.2.2.1
def Deed.Val (x : Deed) : Int := x.2.2.2.2
def Deed.setWas (x : Deed) (v : Int) : Deed := (x.1, x.2.1, x.2.2.1, v, x.2.2.2.2)
@[simp] theorem Deed.Core_mk (Core : Int) (Kind : Int) (At : Int) (Was : Int) (Val : Int) : Deed.Core (Deed.mk Core Kind At Was Val) = Core := rfl
@[simp] theorem Deed.Kind_mk (Core : Int) (Kind : Int) (At : Int) (Was : Int) (Val : Int) : Deed.Kind (Deed.mk Core Kind At Was Val) = Kind := rfl
@[simp] theorem Deed.At_mk (Core : Int) (Kind : Int) (At : Int) (Was : Int) (Val : Int) : Deed.At (Deed.mk Core Kind At Was Val) = At := rfl
@[simp] theorem Deed.Was_mk (Core : Int) (Kind : Int) (At : Int) (Was : Int) (Val : Int) : Deed.Was (Deed.mk Core Kind At Was Val) = Was := rfl
@[simp] theorem Deed.Val_mk (Core : Int) (Kind : Int) (At : Int) (Was : Int) (Val : Int) : Deed.Val (Deed.mk Core Kind At Was Val) = Val := rfl
@[simp] theorem Deed.setWas_eq (x : Deed) (v : Int) : Deed.setWas x v = Deed.mk (Deed.Core x) (Deed.Kind x) (Deed.At x) v (Deed.Val x) := rfl
@[simp] theorem Deed.eta (x : Deed) : Deed.mk (Deed.Core x) (Deed.Kind x) (Deed.At x) (Deed.Was x) (Deed.Val x) = x := rfl

abbrev tsMsg : List Ty := [.int .i64, .int .i64, .int .i64, .int .i64, .int .i64, .int .i64, .bool, .int .u32, .int .u32]
abbrev tMsg : Ty := .st tsMsg
abbrev Msg : Type := Int × Int × Int × Int × Int × Int × Bool × Int × Int

abbrev tsWant : List Ty := [.int .i64, .int .i64, .int .u32, .int .u32]
abbrev tWant : Ty := .st tsWant
abbrev Want : Type := Int × Int × Int × Int
def Want.mk (Kind : Int) (At : Int) (Val : Int) (Old : Int) : Want := (Kind, At, Val, Old)
def Want.Kind (x : Want) : Int := x.1
def Want.At (x : Want) : Int := x.2.1
def Want.Val (x : Want) : Int := x.2.2.1
def Want.Old (x : Want) : Int := x.2.2.2
@[simp] theorem Want.Kind_mk (Kind : Int) (At : Int) (Val : Int) (Old : Int) : Want.Kind (Want.mk Kind At Val Old) = Kind := rfl
@[simp] theorem Want.At_mk (Kind : Int) (At : Int) (Val : Int) (Old : Int) : Want.At (Want.mk Kind At Val Old) = At := rfl
@[simp] theorem Want.Val_mk (Kind : Int) (At : Int) (Val : Int) (Old : Int) : Want.Val (Want.mk Kind At Val Old) = Val := rfl
@[simp] theorem Want.Old_mk (Kind : Int) (At : Int) (Val : Int) (Old : Int) : Want.Old (Want.mk Kind At Val Old) = Old := rfl
@[simp] theorem Want.eta (x : Want) : Want.mk (Want.Kind x) (Want.At x) (Want.Val x) (Want.Old x) = x := rfl

abbrev tsWait : List Ty := [.int .i64, .bool, .bool, .bool, .bool, .bool, .int .i64, .int .i64, .int .u32]
abbrev tWait : Ty := .st tsWait
abbrev Wait : Type := Int × Bool × Bool × Bool × Bool × Bool × Int × Int × Int

abbrev tsruntime_boundsError : List Ty := [.int .i64, .int .i64, .bool, .int .u8]
abbrev truntime_boundsError : Ty := .st tsruntime_boundsError
abbrev runtime_boundsError : Type := Int × Int × Bool × Int

abbrev tsTold : List Ty := [.int .i64, .int .u32]
abbrev tTold : Ty := .st tsTold
abbrev Told : Type := Int × Int
def Told.mk (Core : Int) (Val : Int) : Told := (Core, Val)
def Told.Core (x : Told) : Int := x.1
def Told.Val (x : Told) : Int := x.2
@[simp] theorem Told.Core_mk (Core : Int) (Val : Int) : Told.Core (Told.mk Core Val) = Core := rfl
@[simp] theorem Told.Val_mk (Core : Int) (Val : Int) : Told.Val (Told.mk Core Val) = Val := rfl
@[simp] theorem Told.eta (x : Told) : Told.mk (Told.Core x) (Told.Val x) = x := rfl

abbrev tsruntime_errorAddressString : List Ty := [.str, .int .u64]
abbrev truntime_errorAddressString : Ty := .st tsruntime_errorAddressString
abbrev runtime_errorAddressString : Type := (List Int) × Int

abbrev tsl06_Do : List Ty := [.int .u8, tMsg, .int .u8, .int .u8]
abbrev tl06_Do : Ty := .st tsl06_Do
abbrev l06_Do : Type := Int × Ytihchahfnhoapaa.Msg × Int × Int

abbrev tsEntry : List Ty := [.int .i64, .sl .bool]
abbrev tEntry : Ty := .st tsEntry
abbrev Entry : Type := Int × (List Bool)

abbrev tsCore : List Ty := [.arr 8 (.int .u32), .int .i64, .bool]
abbrev tCore : Ty := .st tsCore
abbrev Core : Type := (List Int) × Int × Bool
def Core.mk (Regs : List Int) (PC : Int) (Halted : Bool) : Core := (Regs, PC, Halted)
def Core.Regs (x : Core) : List Int := x.1
def Core.PC (x : Core) : Int := x.2.1
def Core.Halted (x : Core) : Bool := x.2.2
def Core.setRegs (x : Core) (v : List Int) : Core := (v, x.2.1, x.2.2)
def Core.setPC (x : Core) (v : Int) : Core := (x.1, v, x.2.2)
def Core.setHalted (x : Core) (v : Bool) : Core := (x.1, x.2.1, v)
@[simp] theorem Core.Regs_mk (Regs : List Int) (PC : Int) (Halted : Bool) : Core.Regs (Core.mk Regs PC Halted) = Regs := rfl
@[simp] theorem Core.PC_mk (Regs : List Int) (PC : Int) (Halted : Bool) : Core.PC (Core.mk Regs PC Halted) = PC := rfl
@[simp] theorem Core.Halted_mk (Regs : List Int) (PC : Int) (Halted : Bool) : Core.Halted (Core.mk Regs PC Halted) = Halted := rfl
@[simp] theorem Core.setRegs_eq (x : Core) (v : List Int) : Core.setRegs x v = Core.mk v (Core.PC x) (Core.Halted x) := rfl
@[simp] theorem Core.setPC_eq (x : Core) (v : Int) : Core.setPC x v = Core.mk (Core.Regs x) v (Core.Halted x) := rfl
@[simp] theorem Core.setHalted_eq (x : Core) (v : Bool) : Core.setHalted x v = Core.mk (Core.Regs x) (Core.PC x) v := rfl
@[simp] theorem Core.eta (x : Core) : Core.mk (Core.Regs x) (Core.PC x) (Core.Halted x) = x := rfl

abbrev tsPool : List Ty := [.sl (.sl (.int .u8))]
abbrev tPool : Ty := .st tsPool
abbrev Pool : Type := List (List Int)

abbrev tsAtom : List Ty := [.sl (.int .u32), .sl tCore, .sl tTold]
abbrev tAtom : Ty := .st tsAtom
abbrev Atom : Type := (List Int) × (List Ytihchahfnhoapaa.Core) × (List Ytihchahfnhoapaa.Told)
def Atom.mk (Mem : List Int) (Cores : List Ytihchahfnhoapaa.Core) (Outs : List Ytihchahfnhoapaa.Told) : Atom := (Mem, Cores, Outs)
def Atom.Mem (x : Atom) : List Int := x.1
def Atom.Cores (x : Atom) : List Ytihchahfnhoapaa.Core := x.2.1
def Atom.Outs (x : Atom) : List Ytihchahfnhoapaa.Told := x.2.2
@[simp] theorem Atom.Mem_mk (Mem : List Int) (Cores : List Ytihchahfnhoapaa.Core) (Outs : List Ytihchahfnhoapaa.Told) : Atom.Mem (Atom.mk Mem Cores Outs) = Mem := rfl
@[simp] theorem Atom.Cores_mk (Mem : List Int) (Cores : List Ytihchahfnhoapaa.Core) (Outs : List Ytihchahfnhoapaa.Told) : Atom.Cores (Atom.mk Mem Cores Outs) = Cores := rfl
@[simp] theorem Atom.Outs_mk (Mem : List Int) (Cores : List Ytihchahfnhoapaa.Core) (Outs : List Ytihchahfnhoapaa.Told) : Atom.Outs (Atom.mk Mem Cores Outs) = Outs := rfl
@[simp] theorem Atom.eta (x : Atom) : Atom.mk (Atom.Mem x) (Atom.Cores x) (Atom.Outs x) = x := rfl

abbrev tsProto : List Ty := [.sl (.sl (.int .i64)), .sl (.sl (.int .u32)), .sl tWait, .sl (.int .u32), .sl tEntry, .sl (.int .i64), tPool]
abbrev tProto : Ty := .st tsProto
abbrev Proto : Type := (List (List Int)) × (List (List Int)) × (List Ytihchahfnhoapaa.Wait) × (List Int) × (List Ytihchahfnhoapaa.Entry) × (List Int) × Ytihchahfnhoapaa.Pool

def tys : List Ty := [.no, .no, .int .i64, .int .i64, .bool, .int .u8, .int .u8, truntime_boundsError, truntime_boundsError, .str, .str, .str, .int .u64, truntime_errorAddressString, truntime_errorAddressString, .no, .no, .no, .no, .no, .no, .int .i32, .sl (.sl (.int .i64)), .sl (.sl (.int .u32)), .sl tWait, .sl (.int .u32), .sl tEntry, .sl (.int .i64), .sl (.sl (.int .u8)), tPool, tPool, tProto, tProto, .no, .no, .no, .no, .no, .int .u32, .int .i64, .no, .no, .sl tMsg, .no, .no, tMsg, tMsg, .no, .no, .no, .no, .sl (.sl tIns), .no, .sl tCore, .sl tTold, tAtom, tAtom, .no, .no, .no, .no, .no, .no, .no, .no, .no, .sl (.int .u8), .no, .no, .no, .no, .no, .no, .no, .no, .no, .no, .sl tl06_Do, .sl (.arr 19 (.int .u8)), tl06_Do, tl06_Do, .no, .arr 19 (.int .u8), .int .u64, .no, .no, .no, .no, .no, .arr 8 (.int .u32), tCore, tCore, .no, tWant, tWant, .no, .sl tIns, .no, .no, .no, .no, .no, .no, .sl tDeed, tDeed, tDeed, .no, .no, .no, .no, .no, .no, .no, .no, .sl .bool, tEntry, tEntry, .no, .no, .no, .no, .no, tWait, tWait, .no, .no, .no, .no, .no, .no, .no, tIns, tIns, tTold, tTold, .no, .no, .no, .no, .no, .no, .no, .no, .no, .no, .no, .no, .no, .no, .no, .arr 5 (.int .i64), .no, .no, .no, .no, .no, .no, .no, .no, .no, .no, .no, .no, .no, .no, .no, .no, .no, .no, .no, .no, .no, .no, .no, .no, .no, .no, .no, .no, .no, .no, .no, .no, .no, .no, .int .u64, .no, .no, .no, .no, .no, .no, .no, .arr 4 (.int .u8), .no, .no, .no, .no, .no, .sl (.sl tDeed), .no, .no, .no, .no, .no, .no, .no, .no, .no, .no, .no, .no, .no, .no, .no, .no, .no, .no, .no, .no, .no, .int .u8, .int .u8, .no, .no, .int .i32, .int .i32, .no, .no, .no]
noncomputable def cx : Cx := { P := Try.prog, ty := tys, own := [], inl := [53, 85, 86, 100, 103, 107, 108, 113, 114, 128, 143, 144, 147, 149, 154, 163, 168], keepL := [], absL := [53, 84, 85, 95, 103, 113, 127], heads := [(12, [(14, 51418878865425658795816383110976211040549976188564144018962189, ⟨19, 0, mkSlots 206 0 [(0, .d (.sl (.sl tIns)) (.v 0)), (2, .d (.sl (.int .u8)) (.v 2)), (3, .d (.int .u8) (.v 3)), (8, .d .bool (.c (.bool false))), (9, .d (.int .i64) (.v 9)), (10, .p tAtom tAtom 0 []), (12, .h tDeed 1 none), (13, .d (.int .i64) (.v 14))], [.box tAtom (.ag tAtom [.d (.sl (.int .u32)) (.v 15), .d (.sl tCore) (.v 16), .d (.sl tTold) (.v 17)]), .row tDeed (.v 18)]⟩)])] }
theorem tyOk : TysOk cx := chkTys_ok (by kernel_rfl)
theorem mixed : Try.prog.follows .mixedOrders = true := by kernel_rfl
def noC : FuncId → List D → Option (List D) := fun _ _ => none
theorem noC_ok : CallsOk cx noC := fun _ _ _ _ _ _ _ h => by cases h
theorem call_now {f : FuncId} {ds rs : List D} (k d : Nat) (h : callF cx k 12 noC d f ds = some rs) : callL cx 12 noC f ds = some rs := (callL_some cx 12 noC).2 ⟨k, d, h⟩

/-! 34: backstay/backstayref02.Short -/
noncomputable def r02_Short_L1 (x0 : List (List Ins)) (s : Int) : Option (Int ⊕ Unit ⊕ Bool) :=
  if decide (s < (List.length x0 : Int)) then
    (getO x0 s).bind fun v6 =>
    if decide ((80 : Int) < (List.length v6 : Int)) then
      some (Sum.inr (Sum.inr (false)))
    else
      some (Sum.inl (w64 (s + (1 : Int))))
  else
    some (Sum.inr (Sum.inl ()))
noncomputable def r02_Short (p0 : List (List Ins)) : Option Bool :=
  if decide ((6 : Int) < (List.length p0 : Int)) then
    some (false)
  else
    orExit (
      loopD (r02_Short_L1 p0) (0 : Int) : Option (Unit ⊕ Bool)) fun v3 =>
    some (true)
noncomputable def F_r02_Short : FnT := ⟨[.sl (.sl tIns)], [.bool], fun x => r02_Short x⟩
noncomputable def A_r02_Short : TA :=
 .prim .len [.v 0] <|
 .prim (.bin .gtr) [.v 1, .c (.int .i64 6)] <|
 .ite (.v 2) (
  .jmp 0 false [.c (.bool false)]) (
  .sub1 [] (
   .loop [.int .i64] [.c (.int .i64 0)] (
    .prim .len [.v 0] <|
    .prim (.bin .lss) [.v 3, .v 4] <|
    .ite (.v 5) (
     .prim .get [.v 0, .v 3] <|
     .prim .len [.v 6] <|
     .prim (.bin .gtr) [.v 7, .c (.int .i64 80)] <|
     .ite (.v 8) (
      .jmp 2 false [.c (.bool false)]) (
      .prim (.bin .add) [.v 3, .c (.int .i64 1)] <|
      .jmp 0 true [.v 9])) (
     .jmp 1 false []))) 0 <|
  .jmp 0 false [.c (.bool true)])
theorem a_r02_Short : treeOf cx 12 34 = some A_r02_Short.erase := by kernel_rfl
theorem k_r02_Short : FnOk cx 12 noC 34 F_r02_Short := fn_ok (t := A_r02_Short) a_r02_Short (fun _ => rfl) (ok_of [] (by kernel_rfl) .nil) (fun x => by kernel_rfl)

/-! 60: backstay/backstayref04.Words -/
noncomputable def r04_Words_L1 (x0 : List Int) (x1 : List Int) (s : Int) : Option (Int ⊕ Unit ⊕ Bool) :=
  if decide (s < (List.length x0 : Int)) then
    (getO x0 s).bind fun v8 =>
    (getO x1 s).bind fun v9 =>
    if !decide (v8 = v9) then
      some (Sum.inr (Sum.inr (false)))
    else
      some (Sum.inl (w64 (s + (1 : Int))))
  else
    some (Sum.inr (Sum.inl ()))
noncomputable def r04_Words (p0 : List Int) (p1 : List Int) : Option Bool :=
  if !decide ((List.length p0 : Int) = (List.length p1 : Int)) then
    some (false)
  else
    orExit (
      loopD (r04_Words_L1 p0 p1) (0 : Int) : Option (Unit ⊕ Bool)) fun v5 =>
    some (true)
noncomputable def F_r04_Words : FnT := ⟨[.sl (.int .u32), .sl (.int .u32)], [.bool], fun x => r04_Words x.1 x.2⟩
noncomputable def A_r04_Words : TA :=
 .prim .len [.v 0] <|
 .prim .len [.v 1] <|
 .prim (.bin .neq) [.v 2, .v 3] <|
 .ite (.v 4) (
  .jmp 0 false [.c (.bool false)]) (
  .sub1 [] (
   .loop [.int .i64] [.c (.int .i64 0)] (
    .prim .len [.v 0] <|
    .prim (.bin .lss) [.v 5, .v 6] <|
    .ite (.v 7) (
     .prim .get [.v 0, .v 5] <|
     .prim .get [.v 1, .v 5] <|
     .prim (.bin .neq) [.v 8, .v 9] <|
     .ite (.v 10) (
      .jmp 2 false [.c (.bool false)]) (
      .prim (.bin .add) [.v 5, .c (.int .i64 1)] <|
      .jmp 0 true [.v 11])) (
     .jmp 1 false []))) 0 <|
  .jmp 0 false [.c (.bool true)])
theorem a_r04_Words : treeOf cx 12 60 = some A_r04_Words.erase := by kernel_rfl
theorem k_r04_Words : FnOk cx 12 noC 60 F_r04_Words := fn_ok (t := A_r04_Words) a_r04_Words (fun _ => rfl) (ok_of [] (by kernel_rfl) .nil) (fun x => by kernel_rfl)

/-! 66: backstay/trace.First -/
noncomputable def trace_First0_L1 (x0 : List Deed) (x4 : Int) (s : (Int × (List Int))) : Option ((Int × (List Int)) ⊕ Unit ⊕ Int) :=
  if decide (s.1 < x4) then
    (getO x0 s.1).bind fun v8 =>
    (
      (
        (
          if decide ((Deed.Core v8) < (0 : Int)) then
            some (true)
          else
            if decide ((4 : Int) ≤ (Deed.Core v8)) then
              some (true)
            else
              if decide ((Deed.At v8) < (0 : Int)) then
                some (true)
              else
                if decide ((List.length s.2 : Int) ≤ (Deed.At v8)) then
                  some (true)
                else
                  if decide ((Deed.Kind v8) < (1 : Int)) then
                    some (true)
                  else
                    if decide ((3 : Int) < (Deed.Kind v8)) then
                      some (true)
                    else
                      (idxO (List.length s.2 : Int) (Deed.At v8)).bind fun v23 =>
                      (getO s.2 v23).bind fun v24 =>
                      if !decide (v24 = (Deed.Was v8)) then
                        some (true)
                      else
                        if decide ((Deed.Kind v8) = (1 : Int)) then
                          some ((!decide ((Deed.Val v8) = (Deed.Was v8))))
                        else
                          some (false) : Option Bool).bind fun v9 =>
        if v9 then
          some ((false, s.2))
        else
          (idxO (List.length s.2 : Int) (Deed.At v8)).bind fun v12 =>
          (setO s.2 v12 (Deed.Val v8)).bind fun v13 =>
          some ((true, v13)) : Option (Bool × (List Int))).bind fun v9 =>
      some ((!v9.1, v9.2)) : Option (Bool × (List Int))).bind fun v9 =>
    if v9.1 then
      some (Sum.inr (Sum.inr (s.1)))
    else
      some (Sum.inl (w64 (s.1 + (1 : Int)), v9.2))
  else
    some (Sum.inr (Sum.inl ()))
noncomputable def trace_First0 (p0 : List Deed) (p1 : Int) : Option Int :=
  (
    if (decide (p1 < (1 : Int))) || (decide ((64 : Int) < p1)) then
      some (([] : List Int))
    else
      (repO (0 : Int) 4 p1 p1).bind fun v3 =>
      some (v3) : Option (List Int)).bind fun v2 =>
  (isnilO v2).bind fun v3 =>
  if v3 then
    some ((0 : Int))
  else
    (
      let v4 : Int := (List.length p0 : Int)
      orExit (
        loopD (trace_First0_L1 p0 v4) ((0 : Int), v2) : Option (Unit ⊕ Int)) fun v5 =>
      some ((-1 : Int)) : Option Int).bind fun v4 =>
    if decide (v4 < (0 : Int)) then
      some ((List.length p0 : Int))
    else
      some (v4)
noncomputable def F_trace_First0 : FnT := ⟨[.sl tDeed, .int .i64], [.int .i64], fun x => trace_First0 x.1 x.2⟩
noncomputable def A_trace_First0 : TA :=
 .sub0 [.sl (.int .u32)] (
  .subp [.bool] (
   .prim (.bin .lss) [.v 1, .c (.int .i64 1)] <|
   .ite (.v 2) (
    .jmp 0 false [.c (.bool true)]) (
    .prim (.bin .gtr) [.v 1, .c (.int .i64 64)] <|
    .jmp 0 false [.v 3])) 1 <|
  .ite (.v 2) (
   .jmp 0 false [.c .nil]) (
   .primH (.rep (.int .u32 0) 4) (.sl (.int .u32)) [.v 1, .v 1] <|
   .jmp 0 false [.v 3])) 1 <|
 .prim .isnil [.v 2] <|
 .ite (.v 3) (
  .jmp 0 false [.c (.int .i64 0)]) (
  .sub0 [.int .i64, .no] (
   .prim .len [.v 0] <|
   .sub1 [.no] (
    .loop [.int .i64, .sl (.int .u32)] [.c (.int .i64 0), .v 2] (
     .prim (.bin .lss) [.v 5, .v 4] <|
     .ite (.v 7) (
      .prim .get [.v 0, .v 5] <|
      .sub0 [.bool, .sl (.int .u32)] (
       .sub0 [.bool, .sl (.int .u32)] (
        .sub0 [.bool] (
         .prim (.fld 0) [.v 8] <|
         .prim (.bin .lss) [.v 9, .c (.int .i64 0)] <|
         .ite (.v 10) (
          .jmp 0 false [.c (.bool true)]) (
          .prim (.fld 0) [.v 8] <|
          .prim (.bin .geq) [.v 11, .c (.int .i64 4)] <|
          .ite (.v 12) (
           .jmp 0 false [.c (.bool true)]) (
           .prim (.fld 2) [.v 8] <|
           .prim (.bin .lss) [.v 13, .c (.int .i64 0)] <|
           .ite (.v 14) (
            .jmp 0 false [.c (.bool true)]) (
            .prim (.fld 2) [.v 8] <|
            .prim .len [.v 6] <|
            .prim (.bin .geq) [.v 15, .v 16] <|
            .ite (.v 17) (
             .jmp 0 false [.c (.bool true)]) (
             .prim (.fld 1) [.v 8] <|
             .prim (.bin .lss) [.v 18, .c (.int .i64 1)] <|
             .ite (.v 19) (
              .jmp 0 false [.c (.bool true)]) (
              .prim (.fld 1) [.v 8] <|
              .prim (.bin .gtr) [.v 20, .c (.int .i64 3)] <|
              .ite (.v 21) (
               .jmp 0 false [.c (.bool true)]) (
               .prim (.fld 2) [.v 8] <|
               .prim .idx [.v 6, .v 22] <|
               .prim .get [.v 6, .v 23] <|
               .prim (.fld 3) [.v 8] <|
               .prim (.bin .neq) [.v 24, .v 25] <|
               .ite (.v 26) (
                .jmp 0 false [.c (.bool true)]) (
                .prim (.fld 1) [.v 8] <|
                .prim (.bin .eql) [.v 27, .c (.int .i64 1)] <|
                .ite (.v 28) (
                 .prim (.fld 4) [.v 8] <|
                 .prim (.fld 3) [.v 8] <|
                 .prim (.bin .neq) [.v 29, .v 30] <|
                 .jmp 0 false [.v 31]) (
                 .jmp 0 false [.c (.bool false)]))))))))) 1 <|
        .ite (.v 9) (
         .jmp 0 false [.c (.bool false), .v 6]) (
         .prim (.fld 2) [.v 8] <|
         .prim (.fld 4) [.v 8] <|
         .prim .idx [.v 6, .v 10] <|
         .prim .set [.v 6, .v 12, .v 11] <|
         .jmp 0 false [.c (.bool true), .v 13])) 2 <|
       .prim (.un .not) [.v 9] <|
       .jmp 0 false [.v 11, .v 10]) 2 <|
      .ite (.v 9) (
       .jmp 2 false [.v 5, .v 10]) (
       .prim (.bin .add) [.v 5, .c (.int .i64 1)] <|
       .jmp 0 true [.v 11, .v 10])) (
      .jmp 1 false [.v 6]))) 1 <|
   .jmp 0 false [.c (.int .i64 (-1)), .v 5]) 2 <|
  .prim (.bin .lss) [.v 4, .c (.int .i64 0)] <|
  .ite (.v 6) (
   .prim .len [.v 0] <|
   .jmp 0 false [.v 7]) (
   .jmp 0 false [.v 4]))
theorem a_trace_First0 : treeOf cx 12 66 = some A_trace_First0.erase := by kernel_rfl
theorem k_trace_First0 : FnOk cx 12 noC 66 F_trace_First0 := fn_ok (t := A_trace_First0) a_trace_First0 (fun _ => rfl) (ok_of [] (by kernel_rfl) .nil) (fun x => by kernel_rfl)

/-! What is asked for being nil is told apart here: without words that may be there is no memory. -/
def badWords (w : Int) : Bool := decide (w < 1) || decide (64 < w)
theorem mem_bad {K : Tree} {d0 : D} {w : Int} (hb : badWords w = true) :
    evL cx 12 noC (.sub (.sub (.prim (.bin .lss) [.v 1, .c (.int .i64 1)] (.ite (.v 2) (.jmp 0 false [.c (.bool true)]) (.prim (.bin .gtr) [.v 1, .c (.int .i64 64)] (.jmp 0 false [.v 3])))) 1 (.ite (.v 2) (.jmp 0 false [.c .nil]) (.prim (.rep (.int .u32 0) 4) [.v 1, .v 1] (.jmp 0 false [.v 3])))) 1 (.prim .isnil [.v 2] K)) [d0, .int .i64 w] = evL cx 12 noC K [d0, .int .i64 w, .nil, .bool true] := by
  unfold badWords at hb
  by_cases h1 : w < 1
  · simp [evL_sub, evL_prim, evL_ite, evL_jmp, gets, At.get, Prim.run, binD, binI, h1]
  · have h2 : 64 < w := by simpa [h1] using hb
    simp [evL_sub, evL_prim, evL_ite, evL_jmp, gets, At.get, Prim.run, binD, binI, h1, h2]
theorem first_bad {d0 : D} {w : Int} (hb : badWords w = true) : callL cx 12 noC 66 [d0, .int .i64 w] = some [.int .i64 0] := by
  rw [callL_eq cx 12 noC a_trace_First0 rfl]
  have h := fun K => (mem_bad (d0 := d0) (w := w) (K := .ite (.v 3) (.jmp 0 false [.c (.int .i64 0)]) K) hb).trans (show _ = some (.jmp 0 false [.int .i64 0]) by simp [evL_ite, evL_jmp, gets, At.get])
  exact (congrArg (fun r => match r with | some (Res.jmp _ _ rs) => some rs | _ => none) (h _))
noncomputable def trace_First (p0 : List Deed) (p1 : Int) : Option Int := if badWords p1 = true then some 0 else trace_First0 p0 p1
noncomputable def F_trace_First : FnT := ⟨[.sl tDeed, .int .i64], [.int .i64], fun x => trace_First x.1 x.2⟩
theorem k_trace_First : FnOk cx 12 noC 66 F_trace_First := fun ds x r hx hr => by
  obtain ⟨d0, m, rfl, h1, d1, rfl, h2⟩ := hx
  have h2 : d1 = .int .i64 x.2 := h2
  subst h2
  have hr : (if badWords x.2 = true then some 0 else trace_First0 x.1 x.2) = some r := hr
  by_cases hb : badWords x.2 = true
  · rw [if_pos hb] at hr
    injection hr with hr
    subst hr
    exact ⟨_, first_bad hb, _, rfl, rfl⟩
  · rw [if_neg hb] at hr
    exact k_trace_First0 _ x r ⟨d0, _, rfl, h1, _, rfl, rfl⟩ hr

/-! 67: backstay/trace.Sees -/
noncomputable def trace_Sees_L1 (x0 : List Deed) (x1 : Int) (s : (Int × (List (Int × Int)) × (List Int))) : Option ((Int × (List (Int × Int)) × (List Int)) ⊕ (List Int)) :=
  if decide (s.1 < x1) then
    (getO x0 s.1).bind fun v6 =>
    (appO 8 s.2.2 ([bif !(mhasT (Ty.dec (.int .i64)) s.2.1 (Deed.At v6)) then (-1 : Int) else mgetT (Ty.dec (.int .i64)) (0 : Int) s.2.1 (Deed.At v6)] : List Int)).bind fun v13 =>
    some (Sum.inl (w64 (s.1 + (1 : Int)), bif (decide ((Deed.Kind v6) = (2 : Int))) || (decide ((Deed.Kind v6) = (3 : Int))) then mputT (Ty.dec (.int .i64)) (Deed.At v6) s.1 s.2.1 else s.2.1, v13))
  else
    some (Sum.inr (s.2.2))
noncomputable def trace_Sees (p0 : List Deed) : Option (List Int) :=
  let v1 : Int := (List.length p0 : Int)
  (
    loopD (trace_Sees_L1 p0 v1) ((0 : Int), ([] : List (Int × Int)), ([] : List Int)) : Option (List Int)).bind fun v2 =>
  some (v2)
noncomputable def F_trace_Sees : FnT := ⟨[.sl tDeed], [.sl (.int .i64)], fun x => trace_Sees x⟩
noncomputable def A_trace_Sees : TA :=
 .prim .len [.v 0] <|
 .sub0 [.sl (.int .i64)] (
  .loop [.int .i64, .sl (.st [.int .i64, .int .i64]), .sl (.int .i64)] [.c (.int .i64 0), .c (.sl []), .c .nil] (
   .prim (.bin .lss) [.v 2, .v 1] <|
   .ite (.v 5) (
    .prim .get [.v 0, .v 2] <|
    .prim (.fld 2) [.v 6] <|
    .prim (.mget (.int .i64 0)) [.v 3, .v 7] <|
    .prim .mhas [.v 3, .v 7] <|
    .prim (.un .not) [.v 9] <|
    .subp [.int .i64] (
     .ite (.v 10) (
      .jmp 0 false [.c (.int .i64 (-1))]) (
      .jmp 0 false [.v 8])) 1 <|
    .mkL (.int .i64) [.v 11] <|
    .prim (.app 8) [.v 4, .v 12] <|
    .subp [.bool] (
     .prim (.fld 1) [.v 6] <|
     .prim (.bin .eql) [.v 14, .c (.int .i64 2)] <|
     .ite (.v 15) (
      .jmp 0 false [.c (.bool true)]) (
      .prim (.fld 1) [.v 6] <|
      .prim (.bin .eql) [.v 16, .c (.int .i64 3)] <|
      .jmp 0 false [.v 17])) 1 <|
    .subp [.sl (.st [.int .i64, .int .i64])] (
     .ite (.v 14) (
      .prim (.fld 2) [.v 6] <|
      .prim .mput [.v 3, .v 15, .v 2] <|
      .jmp 0 false [.v 16]) (
      .jmp 0 false [.v 3])) 1 <|
    .prim (.bin .add) [.v 2, .c (.int .i64 1)] <|
    .jmp 0 true [.v 16, .v 15, .v 13]) (
    .jmp 1 false [.v 4]))) 1 <|
 .jmp 0 false [.v 2]
theorem a_trace_Sees : treeOf cx 12 67 = some A_trace_Sees.erase := by kernel_rfl
theorem k_trace_Sees : FnOk cx 12 noC 67 F_trace_Sees := fn_ok (t := A_trace_Sees) a_trace_Sees (fun _ => rfl) (ok_of [] (by kernel_rfl) .nil) (fun x => by kernel_rfl)

/-! 106: backstay/word.Place -/
noncomputable def word_Place (p0 : Int) (p1 : Int) : Option Int :=
  if decide (p1 < (1 : Int)) then
    some ((0 : Int))
  else
    (remO (wu64 p0) (wu64 p1)).bind fun v5 =>
    some ((w64 v5))
noncomputable def F_word_Place : FnT := ⟨[.int .u32, .int .i64], [.int .i64], fun x => word_Place x.1 x.2⟩
noncomputable def A_word_Place : TA :=
 .prim (.bin .lss) [.v 1, .c (.int .i64 1)] <|
 .ite (.v 2) (
  .jmp 0 false [.c (.int .i64 0)]) (
  .prim (.conv .u64) [.v 0] <|
  .prim (.conv .u64) [.v 1] <|
  .prim (.bin .rem) [.v 3, .v 4] <|
  .prim (.conv .i64) [.v 5] <|
  .jmp 0 false [.v 6])
theorem a_word_Place : treeOf cx 12 106 = some A_word_Place.erase := by kernel_rfl
theorem k_word_Place : FnOk cx 12 noC 106 F_word_Place := fn_ok (t := A_word_Place) a_word_Place (fun _ => rfl) (ok_of [] (by kernel_rfl) .nil) (fun x => by kernel_rfl)

/-! 111: backstay/trace.Of -/
noncomputable def trace_Of_L1 (x1 : Int) (s : (Int × Int × (List Deed))) : Option ((Int × Int × (List Deed)) ⊕ (Int × (List Deed))) :=
  if decide (s.2.1 < (List.length s.2.2 : Int)) then
    (idxO (List.length s.2.2 : Int) s.2.1).bind fun v11 =>
    (getO s.2.2 v11).bind fun v12 =>
    (
      if !(!decide ((Deed.Core v12) = x1)) then
        (idxO (List.length s.2.2 : Int) s.1).bind fun v15 =>
        (setO s.2.2 v15 v12).bind fun v16 =>
        some ((w64 (s.1 + (1 : Int)), v16))
      else
        some ((s.1, s.2.2)) : Option (Int × (List Deed))).bind fun v15 =>
    some (Sum.inl (v15.1, w64 (s.2.1 + (1 : Int)), v15.2))
  else
    some (Sum.inr ((s.1, s.2.2)))
noncomputable def trace_Of_L2 (x1 : Int) (x2 : List Deed) (x3 : Int) (s : Int) : Option (Int ⊕ Unit ⊕ Int) :=
  if decide (s < x3) then
    (idxO (List.length x2 : Int) s).bind fun v6 =>
    (getO x2 v6).bind fun v7 =>
    if !decide ((Deed.Core v7) = x1) then
      some (Sum.inr (Sum.inr (s)))
    else
      some (Sum.inl (w64 (s + (1 : Int))))
  else
    some (Sum.inr (Sum.inl ()))
noncomputable def trace_Of (p0 : List Deed) (p1 : Int) : Option (List Deed) :=
  (cloneO 32 p0).bind fun v2 =>
  (
    (
      let v3 : Int := (List.length v2 : Int)
      orExit (
        loopD (trace_Of_L2 p1 v2 v3) (0 : Int) : Option (Unit ⊕ Int)) fun v4 =>
      some ((-1 : Int)) : Option Int).bind fun v3 =>
    if decide (v3 = (-1 : Int)) then
      some (((List.length v2 : Int), v2))
    else
      (
        loopD (trace_Of_L1 p1) (v3, w64 (v3 + (1 : Int)), v2) : Option (Int × (List Deed))).bind fun v6 =>
      (rngO (List.length v6.2 : Int) v6.1 (List.length v6.2 : Int)).bind fun v9 =>
      (subO v6.2 v6.1 v9).bind fun v10 =>
      (cpyvO v6.2 v6.1 v9 (List.replicate (List.length v10) (Deed.mk (0 : Int) (0 : Int) (0 : Int) (0 : Int) (0 : Int)))).bind fun v12 =>
      (rngO (List.length v12 : Int) (0 : Int) v6.1).bind fun v14 =>
      some ((v14, v12)) : Option (Int × (List Deed))).bind fun v3 =>
  (subO v3.2 (0 : Int) v3.1).bind fun v5 =>
  some (v5)
noncomputable def F_trace_Of : FnT := ⟨[.sl tDeed, .int .i64], [.sl tDeed], fun x => trace_Of x.1 x.2⟩
noncomputable def A_trace_Of : TA :=
 .prim (.clone 32) [.v 0] <|
 .sub0 [.int .i64, .sl tDeed] (
  .sub0 [.int .i64] (
   .prim .len [.v 2] <|
   .sub1 [] (
    .loop [.int .i64] [.c (.int .i64 0)] (
     .prim (.bin .lss) [.v 4, .v 3] <|
     .ite (.v 5) (
      .prim .idx [.v 2, .v 4] <|
      .prim .get [.v 2, .v 6] <|
      .subp [.bool] (
       .prim (.fld 0) [.v 7] <|
       .prim (.bin .neq) [.v 8, .v 1] <|
       .jmp 0 false [.v 9]) 1 <|
      .ite (.v 8) (
       .jmp 2 false [.v 4]) (
       .prim (.bin .add) [.v 4, .c (.int .i64 1)] <|
       .jmp 0 true [.v 9])) (
      .jmp 1 false []))) 0 <|
   .jmp 0 false [.c (.int .i64 (-1))]) 1 <|
  .prim (.bin .eql) [.v 3, .c (.int .i64 (-1))] <|
  .ite (.v 4) (
   .prim .len [.v 2] <|
   .jmp 0 false [.v 5, .v 2]) (
   .prim (.bin .add) [.v 3, .c (.int .i64 1)] <|
   .sub0 [.int .i64, .sl tDeed] (
    .loop [.int .i64, .int .i64, .sl tDeed] [.v 3, .v 5, .v 2] (
     .prim .len [.v 8] <|
     .prim (.bin .lss) [.v 7, .v 9] <|
     .ite (.v 10) (
      .prim .idx [.v 8, .v 7] <|
      .prim .get [.v 8, .v 11] <|
      .subp [.bool] (
       .prim (.fld 0) [.v 12] <|
       .prim (.bin .neq) [.v 13, .v 1] <|
       .jmp 0 false [.v 14]) 1 <|
      .prim (.un .not) [.v 13] <|
      .sub0 [.int .i64, .sl tDeed] (
       .ite (.v 14) (
        .prim .idx [.v 8, .v 6] <|
        .prim .set [.v 8, .v 15, .v 12] <|
        .prim (.bin .add) [.v 6, .c (.int .i64 1)] <|
        .jmp 0 false [.v 17, .v 16]) (
        .jmp 0 false [.v 6, .v 8])) 2 <|
      .prim (.bin .add) [.v 7, .c (.int .i64 1)] <|
      .jmp 0 true [.v 15, .v 17, .v 16]) (
      .jmp 1 false [.v 6, .v 8]))) 2 <|
   .prim .len [.v 7] <|
   .prim .rng [.v 7, .v 6, .v 8] <|
   .prim .sub [.v 7, .v 6, .v 9] <|
   .prim (.clr (.agg [(.int .i64 0), (.int .i64 0), (.int .i64 0), (.int .u32 0), (.int .u32 0)])) [.v 10] <|
   .prim .cpyv [.v 7, .v 6, .v 9, .v 11] <|
   .prim .len [.v 12] <|
   .prim .rng [.v 12, .c (.int .i64 0), .v 6] <|
   .jmp 0 false [.v 14, .v 12])) 2 <|
 .prim .sub [.v 4, .c (.int .i64 0), .v 3] <|
 .jmp 0 false [.v 5]
theorem a_trace_Of : treeOf cx 12 111 = some A_trace_Of.erase := by kernel_rfl
theorem k_trace_Of : FnOk cx 12 noC 111 F_trace_Of := fn_ok (t := A_trace_Of) a_trace_Of (fun _ => rfl) (ok_of [] (by kernel_rfl) .nil) (fun x => by kernel_rfl)

/-! 112: backstay/trace.Mix -/
noncomputable def trace_Mix_L1 (x7 : List (List Deed)) (x12 : Int) (s : (Int × Int × (List Deed))) : Option ((Int × Int × (List Deed)) ⊕ (Int × (List Deed))) :=
  if decide (s.2.1 < x12) then
    (idxO (List.length x7 : Int) s.2.1).bind fun v17 =>
    (getO x7 v17).bind fun v18 =>
    (appvO 32 s.2.2 s.1 v18).bind fun v19 =>
    some (Sum.inl (s.1 + (List.length v18 : Int), w64 (s.2.1 + (1 : Int)), v19))
  else
    some (Sum.inr ((s.1, s.2.2)))
noncomputable def trace_Mix_L2 (x7 : List (List Deed)) (x8 : Int) (s : (Int × Int)) : Option ((Int × Int) ⊕ Int) :=
  if decide (s.2 < x8) then
    (idxO (List.length x7 : Int) s.2).bind fun v12 =>
    (getO x7 v12).bind fun v13 =>
    let v15 : Int := w64 (s.1 + (List.length v13 : Int))
    if decide (v15 < (0 : Int)) then
      none
    else
      some (Sum.inl (v15, w64 (s.2 + (1 : Int))))
  else
    some (Sum.inr (s.1))
noncomputable def trace_Mix_L3 (x2 : List Bool) (x3 : Int) (s : (Int × (List Deed) × (List Deed) × (List Deed))) : Option ((Int × (List Deed) × (List Deed) × (List Deed)) ⊕ ((List Deed) × (List Deed) × (List Deed))) :=
  if decide (s.1 < x3) then
    (
      (getO x2 s.1).bind fun v9 =>
      if v9 then
        (
          if decide ((0 : Int) < (List.length s.2.2.1 : Int)) then
            (getO s.2.2.1 (0 : Int)).bind fun v12 =>
            (appO 32 s.2.2.2 ([v12] : List Deed)).bind fun v14 =>
            (subO s.2.2.1 (1 : Int) (List.length s.2.2.1 : Int)).bind fun v16 =>
            some ((v16, v14))
          else
            some ((s.2.2.1, s.2.2.2)) : Option ((List Deed) × (List Deed))).bind fun v12 =>
        some ((s.2.1, v12.1, v12.2))
      else
        (
          if decide ((0 : Int) < (List.length s.2.1 : Int)) then
            (getO s.2.1 (0 : Int)).bind fun v12 =>
            (appO 32 s.2.2.2 ([v12] : List Deed)).bind fun v14 =>
            (subO s.2.1 (1 : Int) (List.length s.2.1 : Int)).bind fun v16 =>
            some ((v16, v14))
          else
            some ((s.2.1, s.2.2.2)) : Option ((List Deed) × (List Deed))).bind fun v12 =>
        some ((v12.1, s.2.2.1, v12.2)) : Option ((List Deed) × (List Deed) × (List Deed))).bind fun v9 =>
    some (Sum.inl (w64 (s.1 + (1 : Int)), v9.1, v9.2.1, v9.2.2))
  else
    some (Sum.inr ((s.2.1, s.2.2.1, s.2.2.2)))
noncomputable def trace_Mix (p0 : List Deed) (p1 : List Deed) (p2 : List Bool) : Option (List Deed) :=
  let v3 : Int := (List.length p2 : Int)
  (
    loopD (trace_Mix_L3 p2 v3) ((0 : Int), p0, p1, ([] : List Deed)) : Option ((List Deed) × (List Deed) × (List Deed))).bind fun v4 =>
  let v7 : List (List Deed) := ([v4.2.2, v4.1, v4.2.1] : List (List Deed))
  (
    let v8 : Int := (List.length v7 : Int)
    (
      loopD (trace_Mix_L2 v7 v8) ((0 : Int), (0 : Int)) : Option Int).bind fun v9 =>
    (
      if decide (v9 < (0 : Int)) then
        none
      else
        let v11 : Int := w64 (v9 - (0 : Int))
        (
          if decide ((0 : Int) < v11) then
            (zextO (Deed.mk (0 : Int) (0 : Int) (0 : Int) (0 : Int) (0 : Int)) 32 ([] : List Deed) v11).bind fun v13 =>
            (rngO (List.length v13 : Int) (0 : Int) (0 : Int)).bind fun v15 =>
            some ((v15, v13))
          else
            some (((0 : Int), ([] : List Deed))) : Option (Int × (List Deed))).bind fun v13 =>
        some ((v13.1, v13.2)) : Option (Int × (List Deed))).bind fun v10 =>
    let v12 : Int := (List.length v7 : Int)
    (
      loopD (trace_Mix_L1 v7 v12) (v10.1, (0 : Int), v10.2) : Option (Int × (List Deed))).bind fun v13 =>
    some ((v13.1, v13.2)) : Option (Int × (List Deed))).bind fun v8 =>
  (subO v8.2 (0 : Int) v8.1).bind fun v10 =>
  some (v10)
noncomputable def F_trace_Mix : FnT := ⟨[.sl tDeed, .sl tDeed, .sl .bool], [.sl tDeed], fun x => trace_Mix x.1 x.2.1 x.2.2⟩
noncomputable def A_trace_Mix : TA :=
 .prim .len [.v 2] <|
 .sub0 [.sl tDeed, .sl tDeed, .sl tDeed] (
  .loop [.int .i64, .sl tDeed, .sl tDeed, .sl tDeed] [.c (.int .i64 0), .v 0, .v 1, .c .nil] (
   .prim (.bin .lss) [.v 4, .v 3] <|
   .ite (.v 8) (
    .sub0 [.sl tDeed, .sl tDeed, .sl tDeed] (
     .prim .get [.v 2, .v 4] <|
     .ite (.v 9) (
      .prim .len [.v 6] <|
      .prim (.bin .gtr) [.v 10, .c (.int .i64 0)] <|
      .sub0 [.sl tDeed, .sl tDeed] (
       .ite (.v 11) (
        .prim .get [.v 6, .c (.int .i64 0)] <|
        .mkL tDeed [.v 12] <|
        .prim (.app 32) [.v 7, .v 13] <|
        .prim .len [.v 6] <|
        .prim .sub [.v 6, .c (.int .i64 1), .v 15] <|
        .jmp 0 false [.v 16, .v 14]) (
        .jmp 0 false [.v 6, .v 7])) 2 <|
      .jmp 0 false [.v 5, .v 12, .v 13]) (
      .prim .len [.v 5] <|
      .prim (.bin .gtr) [.v 10, .c (.int .i64 0)] <|
      .sub0 [.sl tDeed, .sl tDeed] (
       .ite (.v 11) (
        .prim .get [.v 5, .c (.int .i64 0)] <|
        .mkL tDeed [.v 12] <|
        .prim (.app 32) [.v 7, .v 13] <|
        .prim .len [.v 5] <|
        .prim .sub [.v 5, .c (.int .i64 1), .v 15] <|
        .jmp 0 false [.v 16, .v 14]) (
        .jmp 0 false [.v 5, .v 7])) 2 <|
      .jmp 0 false [.v 12, .v 6, .v 13])) 3 <|
    .prim (.bin .add) [.v 4, .c (.int .i64 1)] <|
    .jmp 0 true [.v 12, .v 9, .v 10, .v 11]) (
    .jmp 1 false [.v 5, .v 6, .v 7]))) 3 <|
 .mkL (.sl tDeed) [.v 6, .v 4, .v 5] <|
 .sub0 [.int .i64, .sl tDeed] (
  .prim .len [.v 7] <|
  .sub0 [.int .i64] (
   .loop [.int .i64, .int .i64] [.c (.int .i64 0), .c (.int .i64 0)] (
    .prim (.bin .lss) [.v 10, .v 8] <|
    .ite (.v 11) (
     .prim .idx [.v 7, .v 10] <|
     .prim .get [.v 7, .v 12] <|
     .prim .len [.v 13] <|
     .prim (.bin .add) [.v 9, .v 14] <|
     .prim (.bin .lss) [.v 15, .c (.int .i64 0)] <|
     .ite (.v 16) (
      .fail 153) (
      .prim (.bin .add) [.v 10, .c (.int .i64 1)] <|
      .jmp 0 true [.v 15, .v 17])) (
     .jmp 1 false [.v 9]))) 1 <|
  .sub0 [.int .i64, .sl tDeed] (
   .prim (.bin .lss) [.v 9, .c (.int .i64 0)] <|
   .ite (.v 10) (
    .fail 153) (
    .prim (.bin .sub) [.v 9, .c (.int .i64 0)] <|
    .prim (.bin .gtr) [.v 11, .c (.int .i64 0)] <|
    .sub0 [.int .i64, .sl tDeed] (
     .ite (.v 12) (
      .primH (.zext (.agg [(.int .i64 0), (.int .i64 0), (.int .i64 0), (.int .u32 0), (.int .u32 0)]) 32) (.sl tDeed) [.c .nil, .v 11] <|
      .prim .len [.v 13] <|
      .prim .rng [.v 13, .c (.int .i64 0), .c (.int .i64 0)] <|
      .jmp 0 false [.v 15, .v 13]) (
      .jmp 0 false [.c (.int .i64 0), .c .nil])) 2 <|
    .jmp 0 false [.v 13, .v 14])) 2 <|
  .prim .len [.v 7] <|
  .sub0 [.int .i64, .sl tDeed] (
   .loop [.int .i64, .int .i64, .sl tDeed] [.v 10, .c (.int .i64 0), .v 11] (
    .prim (.bin .lss) [.v 14, .v 12] <|
    .ite (.v 16) (
     .prim .idx [.v 7, .v 14] <|
     .prim .get [.v 7, .v 17] <|
     .prim (.appv 32) [.v 15, .v 13, .v 18] <|
     .prim .len [.v 18] <|
     .prim .vadd [.v 13, .v 20] <|
     .prim (.bin .add) [.v 14, .c (.int .i64 1)] <|
     .jmp 0 true [.v 21, .v 22, .v 19]) (
     .jmp 1 false [.v 13, .v 15]))) 2 <|
  .jmp 0 false [.v 13, .v 14]) 2 <|
 .prim .sub [.v 9, .c (.int .i64 0), .v 8] <|
 .jmp 0 false [.v 10]
theorem a_trace_Mix : treeOf cx 12 112 = some A_trace_Mix.erase := by kernel_rfl
theorem k_trace_Mix : FnOk cx 12 noC 112 F_trace_Mix := fn_ok (t := A_trace_Mix) a_trace_Mix (fun _ => rfl) (ok_of [] (by kernel_rfl) .nil) (fun x => by kernel_rfl)

/-! 169: backstay/word.truth -/
def word_truth (p0 : Bool) : Int :=
  bif p0 then (1 : Int) else (0 : Int)
def F_word_truth : PnT := ⟨[.bool], [.int .u32], fun x => word_truth x⟩
def A_word_truth : TA :=
 .ite (.v 0) (
  .jmp 0 false [.c (.int .u32 1)]) (
  .jmp 0 false [.c (.int .u32 0)])
theorem a_word_truth : treeOf cx 12 169 = some A_word_truth.erase := by kernel_rfl
theorem k_word_truth : FnOk cx 12 noC 169 F_word_truth.fn := pn_ok (t := A_word_truth) a_word_truth (fun _ => rfl) (ok_of [] (by kernel_rfl) .nil) (fun x => by kernel_rfl)

/-! 174: backstay/isa.register -/
def isa_register (p0 : Int) (p1 : Bool) : Bool :=
  bif !p1 then decide (p0 = (0 : Int)) else (decide ((0 : Int) ≤ p0)) && (decide (p0 < (8 : Int)))
def F_isa_register : PnT := ⟨[.int .i64, .bool], [.bool], fun x => isa_register x.1 x.2⟩
def A_isa_register : TA :=
 .prim (.un .not) [.v 1] <|
 .ite (.v 2) (
  .prim (.bin .eql) [.v 0, .c (.int .i64 0)] <|
  .jmp 0 false [.v 3]) (
  .subp [.bool] (
   .prim (.bin .geq) [.v 0, .c (.int .i64 0)] <|
   .ite (.v 3) (
    .prim (.bin .lss) [.v 0, .c (.int .i64 8)] <|
    .jmp 0 false [.v 4]) (
    .jmp 0 false [.c (.bool false)])) 1 <|
  .jmp 0 false [.v 3])
theorem a_isa_register : treeOf cx 12 174 = some A_isa_register.erase := by kernel_rfl
theorem k_isa_register : FnOk cx 12 noC 174 F_isa_register.fn := pn_ok (t := A_isa_register) a_isa_register (fun _ => rfl) (ok_of [] (by kernel_rfl) .nil) (fun x => by kernel_rfl)

/-! 177: backstay/isa.uses -/
def isa_uses (p0 : Int) : Int :=
  let v1 : Bool := decide (p0 = (1 : Int))
  let v3e : Bool := decide (p0 = (2 : Int))
  let v4e_e : Bool := decide (p0 = (3 : Int))
  let v5e_e_e : Bool := decide (p0 = (4 : Int))
  let v6e_e_e_e : Bool := decide (p0 = (5 : Int))
  let v7e_e_e_e_e : Bool := decide (p0 = (6 : Int))
  let v8e_e_e_e_e_e : Bool := decide (p0 = (7 : Int))
  let v9e_e_e_e_e_e_e : Bool := decide (p0 = (8 : Int))
  let v5ee : Bool := decide (p0 = (9 : Int))
  bif bif v1 then v1 else decide (p0 = (14 : Int)) then (9 : Int) else bif bif v3e then v3e else bif v4e_e then v4e_e else bif v5e_e_e then v5e_e_e else bif v6e_e_e_e then v6e_e_e_e else bif v7e_e_e_e_e then v7e_e_e_e_e else bif v8e_e_e_e_e_e then v8e_e_e_e_e_e else bif v9e_e_e_e_e_e_e then v9e_e_e_e_e_e_e else decide (p0 = (11 : Int)) then (7 : Int) else bif bif v5ee then v5ee else decide (p0 = (10 : Int)) then (3 : Int) else bif decide (p0 = (13 : Int)) then (8 : Int) else bif decide (p0 = (15 : Int)) then (1 : Int) else (0 : Int)
def F_isa_uses : PnT := ⟨[.int .i64], [.int .i64], fun x => isa_uses x⟩
def A_isa_uses : TA :=
 .prim (.bin .eql) [.v 0, .c (.int .i64 1)] <|
 .subp [.bool] (
  .ite (.v 1) (
   .jmp 0 false [.v 1]) (
   .prim (.bin .eql) [.v 0, .c (.int .i64 14)] <|
   .jmp 0 false [.v 2])) 1 <|
 .ite (.v 2) (
  .jmp 0 false [.c (.int .i64 9)]) (
  .prim (.bin .eql) [.v 0, .c (.int .i64 2)] <|
  .subp [.bool] (
   .ite (.v 3) (
    .jmp 0 false [.v 3]) (
    .prim (.bin .eql) [.v 0, .c (.int .i64 3)] <|
    .subp [.bool] (
     .ite (.v 4) (
      .jmp 0 false [.v 4]) (
      .prim (.bin .eql) [.v 0, .c (.int .i64 4)] <|
      .subp [.bool] (
       .ite (.v 5) (
        .jmp 0 false [.v 5]) (
        .prim (.bin .eql) [.v 0, .c (.int .i64 5)] <|
        .subp [.bool] (
         .ite (.v 6) (
          .jmp 0 false [.v 6]) (
          .prim (.bin .eql) [.v 0, .c (.int .i64 6)] <|
          .subp [.bool] (
           .ite (.v 7) (
            .jmp 0 false [.v 7]) (
            .prim (.bin .eql) [.v 0, .c (.int .i64 7)] <|
            .subp [.bool] (
             .ite (.v 8) (
              .jmp 0 false [.v 8]) (
              .prim (.bin .eql) [.v 0, .c (.int .i64 8)] <|
              .subp [.bool] (
               .ite (.v 9) (
                .jmp 0 false [.v 9]) (
                .prim (.bin .eql) [.v 0, .c (.int .i64 11)] <|
                .jmp 0 false [.v 10])) 1 <|
              .jmp 0 false [.v 10])) 1 <|
            .jmp 0 false [.v 9])) 1 <|
          .jmp 0 false [.v 8])) 1 <|
        .jmp 0 false [.v 7])) 1 <|
      .jmp 0 false [.v 6])) 1 <|
    .jmp 0 false [.v 5])) 1 <|
  .ite (.v 4) (
   .jmp 0 false [.c (.int .i64 7)]) (
   .prim (.bin .eql) [.v 0, .c (.int .i64 9)] <|
   .subp [.bool] (
    .ite (.v 5) (
     .jmp 0 false [.v 5]) (
     .prim (.bin .eql) [.v 0, .c (.int .i64 10)] <|
     .jmp 0 false [.v 6])) 1 <|
   .ite (.v 6) (
    .jmp 0 false [.c (.int .i64 3)]) (
    .prim (.bin .eql) [.v 0, .c (.int .i64 13)] <|
    .ite (.v 7) (
     .jmp 0 false [.c (.int .i64 8)]) (
     .prim (.bin .eql) [.v 0, .c (.int .i64 15)] <|
     .ite (.v 8) (
      .jmp 0 false [.c (.int .i64 1)]) (
      .jmp 0 false [.c (.int .i64 0)])))))
theorem a_isa_uses : treeOf cx 12 177 = some A_isa_uses.erase := by kernel_rfl
theorem k_isa_uses : FnOk cx 12 noC 177 F_isa_uses.fn := pn_ok (t := A_isa_uses) a_isa_uses (fun _ => rfl) (ok_of [] (by kernel_rfl) .nil) (fun x => by kernel_rfl)

/-! 65: backstay/trace.Holds -/
noncomputable def trace_Holds0 (p0 : List Deed) (p1 : Int) : Option Bool :=
  (
    (
      if (decide (p1 < (1 : Int))) || (decide ((64 : Int) < p1)) then
        some (([] : List Int))
      else
        (repO (0 : Int) 4 p1 p1).bind fun v3 =>
        some (v3) : Option (List Int)).bind fun v2 =>
    (isnilO v2).bind fun v3 =>
    if !v3 then
      (trace_First p0 p1).bind fun v5 =>
      some ((decide (v5 = (List.length p0 : Int))))
    else
      some (false) : Option Bool).bind fun v2 =>
  some (v2)
noncomputable def F_trace_Holds0 : FnT := ⟨[.sl tDeed, .int .i64], [.bool], fun x => trace_Holds0 x.1 x.2⟩
noncomputable def A_trace_Holds0 : TA :=
 .sub0 [.bool] (
  .sub0 [.sl (.int .u32)] (
   .subp [.bool] (
    .prim (.bin .lss) [.v 1, .c (.int .i64 1)] <|
    .ite (.v 2) (
     .jmp 0 false [.c (.bool true)]) (
     .prim (.bin .gtr) [.v 1, .c (.int .i64 64)] <|
     .jmp 0 false [.v 3])) 1 <|
   .ite (.v 2) (
    .jmp 0 false [.c .nil]) (
    .primH (.rep (.int .u32 0) 4) (.sl (.int .u32)) [.v 1, .v 1] <|
    .jmp 0 false [.v 3])) 1 <|
  .prim .isnil [.v 2] <|
  .prim (.un .not) [.v 3] <|
  .ite (.v 4) (
   .call 66 F_trace_First [.v 0, .v 1] 1 <|
   .prim .len [.v 0] <|
   .prim (.bin .eql) [.v 5, .v 6] <|
   .jmp 0 false [.v 7]) (
   .jmp 0 false [.c (.bool false)])) 1 <|
 .jmp 0 false [.v 2]
theorem a_trace_Holds0 : treeOf cx 12 65 = some A_trace_Holds0.erase := by kernel_rfl
theorem k_trace_Holds0 : FnOk cx 12 noC 65 F_trace_Holds0 := fn_ok (t := A_trace_Holds0) a_trace_Holds0 (fun _ => rfl) (ok_of [(66, F_trace_First)] (by kernel_rfl) (.cons k_trace_First .nil)) (fun x => by kernel_rfl)

theorem holds_bad {d0 : D} {w : Int} (hb : badWords w = true) : callL cx 12 noC 65 [d0, .int .i64 w] = some [.bool false] := by
  rw [callL_eq cx 12 noC a_trace_Holds0 rfl]
  have : ∀ K, evL cx 12 noC (.sub (.sub (.sub (.prim (.bin .lss) [.v 1, .c (.int .i64 1)] (.ite (.v 2) (.jmp 0 false [.c (.bool true)]) (.prim (.bin .gtr) [.v 1, .c (.int .i64 64)] (.jmp 0 false [.v 3])))) 1 (.ite (.v 2) (.jmp 0 false [.c .nil]) (.prim (.rep (.int .u32 0) 4) [.v 1, .v 1] (.jmp 0 false [.v 3])))) 1 (.prim .isnil [.v 2] (.prim (.un .not) [.v 3] (.ite (.v 4) K (.jmp 0 false [.c (.bool false)]))))) 1 (.jmp 0 false [.v 2])) [d0, .int .i64 w] = some (.jmp 0 false [.bool false]) := fun K => by
    rw [evL_sub, mem_bad hb]
    simp [evL_prim, evL_ite, evL_jmp, gets, At.get, Prim.run, unD]
  exact congrArg (fun r => match r with | some (Res.jmp _ _ rs) => some rs | _ => none) (this _)
noncomputable def trace_Holds (p0 : List Deed) (p1 : Int) : Option Bool := if badWords p1 = true then some false else trace_Holds0 p0 p1
noncomputable def F_trace_Holds : FnT := ⟨[.sl tDeed, .int .i64], [.bool], fun x => trace_Holds x.1 x.2⟩
theorem k_trace_Holds : FnOk cx 12 noC 65 F_trace_Holds := fun ds x r hx hr => by
  obtain ⟨d0, m, rfl, h1, d1, rfl, h2⟩ := hx
  have h2 : d1 = .int .i64 x.2 := h2
  subst h2
  have hr : (if badWords x.2 = true then some false else trace_Holds0 x.1 x.2) = some r := hr
  by_cases hb : badWords x.2 = true
  · rw [if_pos hb] at hr
    injection hr with hr
    subst hr
    exact ⟨_, holds_bad hb, _, rfl, rfl⟩
  · rw [if_neg hb] at hr
    exact k_trace_Holds0 _ x r ⟨d0, _, rfl, h1, _, rfl, rfl⟩ hr

/-! 156: backstay/word.Do -/
def word_Do (p0 : Int) (p1 : Int) (p2 : Int) : (Int × Bool) :=
  (bif decide (p0 = (2 : Int)) then wu32 (p1 + p2) else bif decide (p0 = (3 : Int)) then wu32 (p1 - p2) else bif decide (p0 = (4 : Int)) then wu32 (p1 * p2) else bif decide (p0 = (5 : Int)) then bAnd .u32 p1 p2 else bif decide (p0 = (6 : Int)) then bXor .u32 p1 p2 else bif decide (p0 = (7 : Int)) then word_truth (decide (p1 = p2)) else bif decide (p0 = (8 : Int)) then word_truth (decide (p1 < p2)) else (0 : Int), (decide (p0 = (2 : Int))) || ((decide (p0 = (3 : Int))) || ((decide (p0 = (4 : Int))) || ((decide (p0 = (5 : Int))) || ((decide (p0 = (6 : Int))) || ((decide (p0 = (7 : Int))) || ((decide (p0 = (8 : Int))) && true)))))))
def F_word_Do : PnT := ⟨[.int .i64, .int .u32, .int .u32], [.int .u32, .bool], fun x => word_Do x.1 x.2.1 x.2.2⟩
def A_word_Do : TA :=
 .prim (.bin .eql) [.v 0, .c (.int .i64 2)] <|
 .ite (.v 3) (
  .prim (.bin .add) [.v 1, .v 2] <|
  .jmp 0 false [.v 4, .c (.bool true)]) (
  .prim (.bin .eql) [.v 0, .c (.int .i64 3)] <|
  .ite (.v 4) (
   .prim (.bin .sub) [.v 1, .v 2] <|
   .jmp 0 false [.v 5, .c (.bool true)]) (
   .prim (.bin .eql) [.v 0, .c (.int .i64 4)] <|
   .ite (.v 5) (
    .prim (.bin .mul) [.v 1, .v 2] <|
    .jmp 0 false [.v 6, .c (.bool true)]) (
    .prim (.bin .eql) [.v 0, .c (.int .i64 5)] <|
    .ite (.v 6) (
     .prim (.bin .and) [.v 1, .v 2] <|
     .jmp 0 false [.v 7, .c (.bool true)]) (
     .prim (.bin .eql) [.v 0, .c (.int .i64 6)] <|
     .ite (.v 7) (
      .prim (.bin .xor) [.v 1, .v 2] <|
      .jmp 0 false [.v 8, .c (.bool true)]) (
      .prim (.bin .eql) [.v 0, .c (.int .i64 7)] <|
      .ite (.v 8) (
       .prim (.bin .eql) [.v 1, .v 2] <|
       .callp 169 F_word_truth [.v 9] 1 <|
       .jmp 0 false [.v 10, .c (.bool true)]) (
       .prim (.bin .eql) [.v 0, .c (.int .i64 8)] <|
       .ite (.v 9) (
        .prim (.bin .lss) [.v 1, .v 2] <|
        .callp 169 F_word_truth [.v 10] 1 <|
        .jmp 0 false [.v 11, .c (.bool true)]) (
        .jmp 0 false [.c (.int .u32 0), .c (.bool false)])))))))
theorem a_word_Do : treeOf cx 12 156 = some A_word_Do.erase := by kernel_rfl
theorem k_word_Do : FnOk cx 12 noC 156 F_word_Do.fn := pn_ok (t := A_word_Do) a_word_Do (fun _ => rfl) (ok_of [(169, F_word_truth.fn), (169, F_word_truth.fn)] (by kernel_rfl) (.cons k_word_truth (.cons k_word_truth .nil))) (fun x => by kernel_rfl)

/-! 173: backstay/isa.Uses -/
def isa_Uses (p0 : Int) : (Bool × Bool × Bool × Bool) :=
  let v1 : Int := isa_uses p0
  (!decide ((bAnd .i64 v1 (1 : Int)) = (0 : Int)), !decide ((bAnd .i64 v1 (2 : Int)) = (0 : Int)), !decide ((bAnd .i64 v1 (4 : Int)) = (0 : Int)), !decide ((bAnd .i64 v1 (8 : Int)) = (0 : Int)))
def F_isa_Uses : PnT := ⟨[.int .i64], [.bool, .bool, .bool, .bool], fun x => isa_Uses x⟩
def A_isa_Uses : TA :=
 .callp 177 F_isa_uses [.v 0] 1 <|
 .prim (.bin .and) [.v 1, .c (.int .i64 1)] <|
 .prim (.bin .neq) [.v 2, .c (.int .i64 0)] <|
 .prim (.bin .and) [.v 1, .c (.int .i64 2)] <|
 .prim (.bin .neq) [.v 4, .c (.int .i64 0)] <|
 .prim (.bin .and) [.v 1, .c (.int .i64 4)] <|
 .prim (.bin .neq) [.v 6, .c (.int .i64 0)] <|
 .prim (.bin .and) [.v 1, .c (.int .i64 8)] <|
 .prim (.bin .neq) [.v 8, .c (.int .i64 0)] <|
 .jmp 0 false [.v 3, .v 5, .v 7, .v 9]
theorem a_isa_Uses : treeOf cx 12 173 = some A_isa_Uses.erase := by kernel_rfl
theorem k_isa_Uses : FnOk cx 12 noC 173 F_isa_Uses.fn := pn_ok (t := A_isa_Uses) a_isa_Uses (fun _ => rfl) (ok_of [(177, F_isa_uses.fn)] (by kernel_rfl) (.cons k_isa_uses .nil)) (fun x => by kernel_rfl)

/-! 64: backstay/trace.After -/
noncomputable def trace_After_L1 (x0 : List Deed) (x5 : Int) (s : (Int × (List Int))) : Option ((Int × (List Int)) ⊕ (List Int)) :=
  if decide (s.1 < x5) then
    (getO x0 s.1).bind fun v9 =>
    (
      (
        if decide ((Deed.Core v9) < (0 : Int)) then
          some (true)
        else
          if decide ((4 : Int) ≤ (Deed.Core v9)) then
            some (true)
          else
            if decide ((Deed.At v9) < (0 : Int)) then
              some (true)
            else
              if decide ((List.length s.2 : Int) ≤ (Deed.At v9)) then
                some (true)
              else
                if decide ((Deed.Kind v9) < (1 : Int)) then
                  some (true)
                else
                  if decide ((3 : Int) < (Deed.Kind v9)) then
                    some (true)
                  else
                    (idxO (List.length s.2 : Int) (Deed.At v9)).bind fun v24 =>
                    (getO s.2 v24).bind fun v25 =>
                    if !decide (v25 = (Deed.Was v9)) then
                      some (true)
                    else
                      if decide ((Deed.Kind v9) = (1 : Int)) then
                        some ((!decide ((Deed.Val v9) = (Deed.Was v9))))
                      else
                        some (false) : Option Bool).bind fun v10 =>
      if v10 then
        some (s.2)
      else
        (idxO (List.length s.2 : Int) (Deed.At v9)).bind fun v13 =>
        (setO s.2 v13 (Deed.Val v9)).bind fun v14 =>
        some (v14) : Option (List Int)).bind fun v10 =>
    some (Sum.inl (w64 (s.1 + (1 : Int)), v10))
  else
    some (Sum.inr (s.2))
noncomputable def trace_After (p0 : List Deed) (p1 : Int) : Option ((List Int) × Int) :=
  (trace_Holds p0 p1).bind fun v2 =>
  if !v2 then
    some ((([] : List Int), (1 : Int)))
  else
    (
      if (decide (p1 < (1 : Int))) || (decide ((64 : Int) < p1)) then
        some (([] : List Int))
      else
        (repO (0 : Int) 4 p1 p1).bind fun v5 =>
        some (v5) : Option (List Int)).bind fun v4 =>
    let v5 : Int := (List.length p0 : Int)
    (
      loopD (trace_After_L1 p0 v5) ((0 : Int), v4) : Option (List Int)).bind fun v6 =>
    some ((v6, (0 : Int)))
noncomputable def F_trace_After : FnT := ⟨[.sl tDeed, .int .i64], [.sl (.int .u32), .int .i64], fun x => trace_After x.1 x.2⟩
noncomputable def A_trace_After : TA :=
 .call 65 F_trace_Holds [.v 0, .v 1] 1 <|
 .prim (.un .not) [.v 2] <|
 .ite (.v 3) (
  .jmp 0 false [.c .nil, .c (.int .i64 1)]) (
  .sub0 [.sl (.int .u32)] (
   .subp [.bool] (
    .prim (.bin .lss) [.v 1, .c (.int .i64 1)] <|
    .ite (.v 4) (
     .jmp 0 false [.c (.bool true)]) (
     .prim (.bin .gtr) [.v 1, .c (.int .i64 64)] <|
     .jmp 0 false [.v 5])) 1 <|
   .ite (.v 4) (
    .jmp 0 false [.c .nil]) (
    .primH (.rep (.int .u32 0) 4) (.sl (.int .u32)) [.v 1, .v 1] <|
    .jmp 0 false [.v 5])) 1 <|
  .prim .len [.v 0] <|
  .sub0 [.sl (.int .u32)] (
   .loop [.int .i64, .sl (.int .u32)] [.c (.int .i64 0), .v 4] (
    .prim (.bin .lss) [.v 6, .v 5] <|
    .ite (.v 8) (
     .prim .get [.v 0, .v 6] <|
     .sub0 [.no, .sl (.int .u32)] (
      .sub0 [.bool] (
       .prim (.fld 0) [.v 9] <|
       .prim (.bin .lss) [.v 10, .c (.int .i64 0)] <|
       .ite (.v 11) (
        .jmp 0 false [.c (.bool true)]) (
        .prim (.fld 0) [.v 9] <|
        .prim (.bin .geq) [.v 12, .c (.int .i64 4)] <|
        .ite (.v 13) (
         .jmp 0 false [.c (.bool true)]) (
         .prim (.fld 2) [.v 9] <|
         .prim (.bin .lss) [.v 14, .c (.int .i64 0)] <|
         .ite (.v 15) (
          .jmp 0 false [.c (.bool true)]) (
          .prim (.fld 2) [.v 9] <|
          .prim .len [.v 7] <|
          .prim (.bin .geq) [.v 16, .v 17] <|
          .ite (.v 18) (
           .jmp 0 false [.c (.bool true)]) (
           .prim (.fld 1) [.v 9] <|
           .prim (.bin .lss) [.v 19, .c (.int .i64 1)] <|
           .ite (.v 20) (
            .jmp 0 false [.c (.bool true)]) (
            .prim (.fld 1) [.v 9] <|
            .prim (.bin .gtr) [.v 21, .c (.int .i64 3)] <|
            .ite (.v 22) (
             .jmp 0 false [.c (.bool true)]) (
             .prim (.fld 2) [.v 9] <|
             .prim .idx [.v 7, .v 23] <|
             .prim .get [.v 7, .v 24] <|
             .prim (.fld 3) [.v 9] <|
             .prim (.bin .neq) [.v 25, .v 26] <|
             .ite (.v 27) (
              .jmp 0 false [.c (.bool true)]) (
              .prim (.fld 1) [.v 9] <|
              .prim (.bin .eql) [.v 28, .c (.int .i64 1)] <|
              .ite (.v 29) (
               .prim (.fld 4) [.v 9] <|
               .prim (.fld 3) [.v 9] <|
               .prim (.bin .neq) [.v 30, .v 31] <|
               .jmp 0 false [.v 32]) (
               .jmp 0 false [.c (.bool false)]))))))))) 1 <|
      .ite (.v 10) (
       .jmp 0 false [.c (.bool false), .v 7]) (
       .prim (.fld 2) [.v 9] <|
       .prim (.fld 4) [.v 9] <|
       .prim .idx [.v 7, .v 11] <|
       .prim .set [.v 7, .v 13, .v 12] <|
       .jmp 0 false [.c (.bool true), .v 14])) 2 <|
     .prim (.bin .add) [.v 6, .c (.int .i64 1)] <|
     .jmp 0 true [.v 12, .v 11]) (
     .jmp 1 false [.v 7]))) 1 <|
  .jmp 0 false [.v 6, .c (.int .i64 0)])
theorem a_trace_After : treeOf cx 12 64 = some A_trace_After.erase := by kernel_rfl
theorem k_trace_After : FnOk cx 12 noC 64 F_trace_After := fn_ok (t := A_trace_After) a_trace_After (fun _ => rfl) (ok_of [(65, F_trace_Holds)] (by kernel_rfl) (.cons k_trace_Holds .nil)) (fun x => by kernel_rfl)

/-! 162: backstay/isa.May -/
def isa_May (p0 : Ins) (p1 : Int) : Bool :=
  let v3 : (Bool × Bool × Bool × Bool) := isa_Uses (Ins.Op p0)
  bif (decide ((Ins.Op p0) < (1 : Int))) || ((decide ((16 : Int) < (Ins.Op p0))) || ((!(isa_register (Ins.A p0) v3.1)) || ((!(isa_register (Ins.B p0) v3.2.1)) || (!(isa_register (Ins.C p0) v3.2.2.1))))) then false else (decide ((Ins.Op p0) = (1 : Int))) || (bif !v3.2.2.2 then decide ((Ins.K p0) = (0 : Int)) else (decide ((0 : Int) < p1)) && (decide ((wu64 (Ins.K p0)) < (wu64 p1))))
def F_isa_May : PnT := ⟨[tIns, .int .i64], [.bool], fun x => isa_May x.1 x.2⟩
def A_isa_May : TA :=
 .prim (.fld 0) [.v 0] <|
 .callp 173 F_isa_Uses [.v 2] 4 <|
 .subp [.bool] (
  .prim (.fld 0) [.v 0] <|
  .prim (.bin .lss) [.v 7, .c (.int .i64 1)] <|
  .ite (.v 8) (
   .jmp 0 false [.c (.bool true)]) (
   .prim (.fld 0) [.v 0] <|
   .prim (.bin .gtr) [.v 9, .c (.int .i64 16)] <|
   .ite (.v 10) (
    .jmp 0 false [.c (.bool true)]) (
    .prim (.fld 1) [.v 0] <|
    .callp 174 F_isa_register [.v 11, .v 3] 1 <|
    .prim (.un .not) [.v 12] <|
    .ite (.v 13) (
     .jmp 0 false [.c (.bool true)]) (
     .prim (.fld 2) [.v 0] <|
     .callp 174 F_isa_register [.v 14, .v 4] 1 <|
     .prim (.un .not) [.v 15] <|
     .ite (.v 16) (
      .jmp 0 false [.c (.bool true)]) (
      .prim (.fld 3) [.v 0] <|
      .callp 174 F_isa_register [.v 17, .v 5] 1 <|
      .prim (.un .not) [.v 18] <|
      .jmp 0 false [.v 19]))))) 1 <|
 .ite (.v 7) (
  .jmp 0 false [.c (.bool false)]) (
  .prim (.fld 0) [.v 0] <|
  .prim (.bin .eql) [.v 8, .c (.int .i64 1)] <|
  .ite (.v 9) (
   .jmp 0 false [.c (.bool true)]) (
   .prim (.un .not) [.v 6] <|
   .ite (.v 10) (
    .prim (.fld 4) [.v 0] <|
    .prim (.bin .eql) [.v 11, .c (.int .u32 0)] <|
    .jmp 0 false [.v 12]) (
    .subp [.bool] (
     .prim (.bin .gtr) [.v 1, .c (.int .i64 0)] <|
     .ite (.v 11) (
      .prim (.fld 4) [.v 0] <|
      .prim (.conv .u64) [.v 12] <|
      .prim (.conv .u64) [.v 1] <|
      .prim (.bin .lss) [.v 13, .v 14] <|
      .jmp 0 false [.v 15]) (
      .jmp 0 false [.c (.bool false)])) 1 <|
    .jmp 0 false [.v 11])))
theorem a_isa_May : treeOf cx 12 162 = some A_isa_May.erase := by kernel_rfl
theorem k_isa_May : FnOk cx 12 noC 162 F_isa_May.fn := pn_ok (t := A_isa_May) a_isa_May (fun _ => rfl) (ok_of [(173, F_isa_Uses.fn), (174, F_isa_register.fn), (174, F_isa_register.fn), (174, F_isa_register.fn)] (by kernel_rfl) (.cons k_isa_Uses (.cons k_isa_register (.cons k_isa_register (.cons k_isa_register .nil))))) (fun x => by kernel_rfl)

/-! 63: backstay/backstaylaw21.awake -/
def l21_awake : Bool := true
def F_l21_awake : PnT := ⟨[], [.bool], fun _ => l21_awake⟩
theorem k_l21_awake : FnOk cx 12 noC 63 F_l21_awake.fn := fun ds x r hx hr => by
  have hx : ds = [] := hx
  subst hx
  exact ⟨[.bool true], call_now 100 12 (by kernel_rfl), .bool true, rfl, congrArg D.bool (Option.some.inj hr)⟩

/-! 138: backstay/isa.Right -/
noncomputable def isa_Right_L1 (x0 : List Ins) (x7 : Int) (s : Int) : Option (Int ⊕ Unit ⊕ Int) :=
  if decide (s < x7) then
    (getO x0 s).bind fun v10 =>
    if !(isa_May v10 (List.length x0 : Int)) then
      some (Sum.inr (Sum.inr (s)))
    else
      some (Sum.inl (w64 (s + (1 : Int))))
  else
    some (Sum.inr (Sum.inl ()))
noncomputable def isa_Right (p0 : List Ins) : Option Bool :=
  if (decide ((List.length p0 : Int) < (1 : Int))) || (decide ((64 : Int) < (List.length p0 : Int))) then
    some (false)
  else
    (getO p0 (w64 ((List.length p0 : Int) - (1 : Int)))).bind fun v4 =>
    (
      if (decide ((Ins.Op v4) = (16 : Int))) || (decide ((Ins.Op v4) = (13 : Int))) then
        (
          (
            let v7 : Int := (List.length p0 : Int)
            orExit (
              loopD (isa_Right_L1 p0 v7) (0 : Int) : Option (Unit ⊕ Int)) fun v8 =>
            some ((-1 : Int)) : Option Int).bind fun v7 =>
          some ((decide ((0 : Int) ≤ v7))) : Option Bool).bind fun v7 =>
        some ((!v7))
      else
        some (false) : Option Bool).bind fun v7 =>
    some (v7)
noncomputable def F_isa_Right : FnT := ⟨[.sl tIns], [.bool], fun x => isa_Right x⟩
noncomputable def A_isa_Right : TA :=
 .subp [.bool] (
  .prim .len [.v 0] <|
  .prim (.bin .lss) [.v 1, .c (.int .i64 1)] <|
  .ite (.v 2) (
   .jmp 0 false [.c (.bool true)]) (
   .prim .len [.v 0] <|
   .prim (.bin .gtr) [.v 3, .c (.int .i64 64)] <|
   .jmp 0 false [.v 4])) 1 <|
 .ite (.v 1) (
  .jmp 0 false [.c (.bool false)]) (
  .prim .len [.v 0] <|
  .prim (.bin .sub) [.v 2, .c (.int .i64 1)] <|
  .prim .get [.v 0, .v 3] <|
  .prim (.fld 0) [.v 4] <|
  .subp [.bool] (
   .prim (.bin .eql) [.v 5, .c (.int .i64 16)] <|
   .ite (.v 6) (
    .jmp 0 false [.c (.bool true)]) (
    .prim (.bin .eql) [.v 5, .c (.int .i64 13)] <|
    .jmp 0 false [.v 7])) 1 <|
  .sub0 [.bool] (
   .ite (.v 6) (
    .sub0 [.bool] (
     .sub0 [.int .i64] (
      .prim .len [.v 0] <|
      .sub1 [] (
       .loop [.int .i64] [.c (.int .i64 0)] (
        .prim (.bin .lss) [.v 8, .v 7] <|
        .ite (.v 9) (
         .prim .get [.v 0, .v 8] <|
         .subp [.bool] (
          .prim .len [.v 0] <|
          .callp 162 F_isa_May [.v 10, .v 11] 1 <|
          .prim (.un .not) [.v 12] <|
          .jmp 0 false [.v 13]) 1 <|
         .ite (.v 11) (
          .jmp 2 false [.v 8]) (
          .prim (.bin .add) [.v 8, .c (.int .i64 1)] <|
          .jmp 0 true [.v 12])) (
         .jmp 1 false []))) 0 <|
      .jmp 0 false [.c (.int .i64 (-1))]) 1 <|
     .prim (.bin .geq) [.v 7, .c (.int .i64 0)] <|
     .jmp 0 false [.v 8]) 1 <|
    .prim (.un .not) [.v 7] <|
    .jmp 0 false [.v 8]) (
    .jmp 0 false [.c (.bool false)])) 1 <|
  .jmp 0 false [.v 7])
theorem a_isa_Right : treeOf cx 12 138 = some A_isa_Right.erase := by kernel_rfl
theorem k_isa_Right : FnOk cx 12 noC 138 F_isa_Right := fn_ok (t := A_isa_Right) a_isa_Right (fun _ => rfl) (ok_of [(162, F_isa_May.fn)] (by kernel_rfl) (.cons k_isa_May .nil)) (fun x => by kernel_rfl)

/-! 94: backstay/core.Right -/
noncomputable def core_Right (p0 : List Ins) (p1 : Core) : Option Bool :=
  (
    (isa_Right p0).bind fun v2 =>
    if v2 then
      if decide ((0 : Int) ≤ (Core.PC p1)) then
        some ((decide ((Core.PC p1) < (List.length p0 : Int))))
      else
        some (false)
    else
      some (false) : Option Bool).bind fun v2 =>
  some (v2)
noncomputable def F_core_Right : FnT := ⟨[.sl tIns, tCore], [.bool], fun x => core_Right x.1 x.2⟩
noncomputable def A_core_Right : TA :=
 .sub0 [.bool] (
  .call 138 F_isa_Right [.v 0] 1 <|
  .ite (.v 2) (
   .prim (.fld 1) [.v 1] <|
   .prim (.bin .geq) [.v 3, .c (.int .i64 0)] <|
   .ite (.v 4) (
    .prim (.fld 1) [.v 1] <|
    .prim .len [.v 0] <|
    .prim (.bin .lss) [.v 5, .v 6] <|
    .jmp 0 false [.v 7]) (
    .jmp 0 false [.c (.bool false)])) (
   .jmp 0 false [.c (.bool false)])) 1 <|
 .jmp 0 false [.v 2]
theorem a_core_Right : treeOf cx 12 94 = some A_core_Right.erase := by kernel_rfl
theorem k_core_Right : FnOk cx 12 noC 94 F_core_Right := fn_ok (t := A_core_Right) a_core_Right (fun _ => rfl) (ok_of [(138, F_isa_Right)] (by kernel_rfl) (.cons k_isa_Right .nil)) (fun x => by kernel_rfl)

/-! 137: backstay/isa.All$1 -/
noncomputable def isa_All_1 (p0 : List Ins) : Option Bool :=
  (isa_Right p0).bind fun v1 =>
  some ((!v1))
noncomputable def F_isa_All_1 : FnT := ⟨[.sl tIns], [.bool], fun x => isa_All_1 x⟩
noncomputable def A_isa_All_1 : TA :=
 .call 138 F_isa_Right [.v 0] 1 <|
 .prim (.un .not) [.v 1] <|
 .jmp 0 false [.v 2]
theorem a_isa_All_1 : treeOf cx 12 137 = some A_isa_All_1.erase := by kernel_rfl
theorem k_isa_All_1 : FnOk cx 12 noC 137 F_isa_All_1 := fn_ok (t := A_isa_All_1) a_isa_All_1 (fun _ => rfl) (ok_of [(138, F_isa_Right)] (by kernel_rfl) (.cons k_isa_Right .nil)) (fun x => by kernel_rfl)

/-! 57: backstay/core.Wants -/
noncomputable def core_Wants (p0 : List Ins) (p1 : Core) (p2 : Int) : Option Want :=
  (
    (core_Right p0 p1).bind fun v3 =>
    if !v3 then
      some (true)
    else
      if Core.Halted p1 then
        some (true)
      else
        (getO p0 (Core.PC p1)).bind fun v7 =>
        some ((decide ((Ins.Op v7) = (16 : Int)))) : Option Bool).bind fun v3 =>
  if v3 then
    some ((Want.mk (5 : Int) (0 : Int) (0 : Int) (0 : Int)))
  else
    (getO p0 (Core.PC p1)).bind fun v5 =>
    (idxO (8 : Int) (Ins.A v5)).bind fun v7 =>
    (getO (Core.Regs p1) v7).bind fun v9 =>
    (idxO (8 : Int) (Ins.B v5)).bind fun v11 =>
    (getO (Core.Regs p1) v11).bind fun v13 =>
    (word_Place v13 p2).bind fun v14 =>
    if decide ((Ins.Op v5) = (9 : Int)) then
      some ((Want.mk (1 : Int) v14 (0 : Int) (0 : Int)))
    else
      if decide ((Ins.Op v5) = (10 : Int)) then
        some ((Want.mk (2 : Int) v14 v9 (0 : Int)))
      else
        if decide ((Ins.Op v5) = (11 : Int)) then
          (idxO (8 : Int) (Ins.C v5)).bind fun v20 =>
          (getO (Core.Regs p1) v20).bind fun v22 =>
          some ((Want.mk (3 : Int) v14 v22 v9))
        else
          if decide ((Ins.Op v5) = (15 : Int)) then
            some ((Want.mk (4 : Int) (0 : Int) v9 (0 : Int)))
          else
            some ((Want.mk (0 : Int) (0 : Int) (0 : Int) (0 : Int)))
noncomputable def F_core_Wants : FnT := ⟨[.sl tIns, tCore, .int .i64], [tWant], fun x => core_Wants x.1 x.2.1 x.2.2⟩
noncomputable def A_core_Wants : TA :=
 .sub0 [.bool] (
  .call 94 F_core_Right [.v 0, .v 1] 1 <|
  .prim (.un .not) [.v 3] <|
  .ite (.v 4) (
   .jmp 0 false [.c (.bool true)]) (
   .prim (.fld 2) [.v 1] <|
   .ite (.v 5) (
    .jmp 0 false [.c (.bool true)]) (
    .prim (.fld 1) [.v 1] <|
    .prim .get [.v 0, .v 6] <|
    .prim (.fld 0) [.v 7] <|
    .prim (.bin .eql) [.v 8, .c (.int .i64 16)] <|
    .jmp 0 false [.v 9]))) 1 <|
 .ite (.v 3) (
  .jmp 0 false [.c (.agg [(.int .i64 5), (.int .i64 0), (.int .u32 0), (.int .u32 0)])]) (
  .prim (.fld 1) [.v 1] <|
  .prim .get [.v 0, .v 4] <|
  .prim (.fld 1) [.v 5] <|
  .prim (.idxn 8) [.v 6] <|
  .prim (.fld 0) [.v 1] <|
  .prim .get [.v 8, .v 7] <|
  .prim (.fld 2) [.v 5] <|
  .prim (.idxn 8) [.v 10] <|
  .prim (.fld 0) [.v 1] <|
  .prim .get [.v 12, .v 11] <|
  .call 106 F_word_Place [.v 13, .v 2] 1 <|
  .prim (.fld 0) [.v 5] <|
  .prim (.bin .eql) [.v 15, .c (.int .i64 9)] <|
  .ite (.v 16) (
   .mkS tsWant [.c (.int .i64 1), .v 14, .c (.int .u32 0), .c (.int .u32 0)] <|
   .jmp 0 false [.v 17]) (
   .prim (.bin .eql) [.v 15, .c (.int .i64 10)] <|
   .ite (.v 17) (
    .mkS tsWant [.c (.int .i64 2), .v 14, .v 9, .c (.int .u32 0)] <|
    .jmp 0 false [.v 18]) (
    .prim (.bin .eql) [.v 15, .c (.int .i64 11)] <|
    .ite (.v 18) (
     .prim (.fld 3) [.v 5] <|
     .prim (.idxn 8) [.v 19] <|
     .prim (.fld 0) [.v 1] <|
     .prim .get [.v 21, .v 20] <|
     .mkS tsWant [.c (.int .i64 3), .v 14, .v 22, .v 9] <|
     .jmp 0 false [.v 23]) (
     .prim (.bin .eql) [.v 15, .c (.int .i64 15)] <|
     .ite (.v 19) (
      .mkS tsWant [.c (.int .i64 4), .c (.int .i64 0), .v 9, .c (.int .u32 0)] <|
      .jmp 0 false [.v 20]) (
      .jmp 0 false [.c (.agg [(.int .i64 0), (.int .i64 0), (.int .u32 0), (.int .u32 0)])])))))
theorem a_core_Wants : treeOf cx 12 57 = some A_core_Wants.erase := by kernel_rfl
theorem k_core_Wants : FnOk cx 12 noC 57 F_core_Wants := fn_ok (t := A_core_Wants) a_core_Wants (fun _ => rfl) (ok_of [(94, F_core_Right), (106, F_word_Place)] (by kernel_rfl) (.cons k_core_Right (.cons k_word_Place .nil))) (fun x => by kernel_rfl)

/-! 93: backstay/isa.All -/
noncomputable def isa_All_L1 (x0 : List (List Ins)) (x2 : Int) (s : Int) : Option (Int ⊕ Unit ⊕ Int) :=
  if decide (s < x2) then
    (getO x0 s).bind fun v5 =>
    (isa_All_1 v5).bind fun v6 =>
    if v6 then
      some (Sum.inr (Sum.inr (s)))
    else
      some (Sum.inl (w64 (s + (1 : Int))))
  else
    some (Sum.inr (Sum.inl ()))
noncomputable def isa_All (p0 : List (List Ins)) : Option Bool :=
  (
    if (decide ((1 : Int) ≤ (List.length p0 : Int))) && (decide ((List.length p0 : Int) ≤ (4 : Int))) then
      (
        (
          let v2 : Int := (List.length p0 : Int)
          orExit (
            loopD (isa_All_L1 p0 v2) (0 : Int) : Option (Unit ⊕ Int)) fun v3 =>
          some ((-1 : Int)) : Option Int).bind fun v2 =>
        some ((decide ((0 : Int) ≤ v2))) : Option Bool).bind fun v2 =>
      some ((!v2))
    else
      some (false) : Option Bool).bind fun v2 =>
  some (v2)
noncomputable def F_isa_All : FnT := ⟨[.sl (.sl tIns)], [.bool], fun x => isa_All x⟩
noncomputable def A_isa_All : TA :=
 .subp [.bool] (
  .prim .len [.v 0] <|
  .prim (.bin .geq) [.v 1, .c (.int .i64 1)] <|
  .ite (.v 2) (
   .prim .len [.v 0] <|
   .prim (.bin .leq) [.v 3, .c (.int .i64 4)] <|
   .jmp 0 false [.v 4]) (
   .jmp 0 false [.c (.bool false)])) 1 <|
 .sub0 [.bool] (
  .ite (.v 1) (
   .sub0 [.bool] (
    .sub0 [.int .i64] (
     .prim .len [.v 0] <|
     .sub1 [] (
      .loop [.int .i64] [.c (.int .i64 0)] (
       .prim (.bin .lss) [.v 3, .v 2] <|
       .ite (.v 4) (
        .prim .get [.v 0, .v 3] <|
        .call 137 F_isa_All_1 [.v 5] 1 <|
        .ite (.v 6) (
         .jmp 2 false [.v 3]) (
         .prim (.bin .add) [.v 3, .c (.int .i64 1)] <|
         .jmp 0 true [.v 7])) (
        .jmp 1 false []))) 0 <|
     .jmp 0 false [.c (.int .i64 (-1))]) 1 <|
    .prim (.bin .geq) [.v 2, .c (.int .i64 0)] <|
    .jmp 0 false [.v 3]) 1 <|
   .prim (.un .not) [.v 2] <|
   .jmp 0 false [.v 3]) (
   .jmp 0 false [.c (.bool false)])) 1 <|
 .jmp 0 false [.v 2]
theorem a_isa_All : treeOf cx 12 93 = some A_isa_All.erase := by kernel_rfl
theorem k_isa_All : FnOk cx 12 noC 93 F_isa_All := fn_ok (t := A_isa_All) a_isa_All (fun _ => rfl) (ok_of [(137, F_isa_All_1)] (by kernel_rfl) (.cons k_isa_All_1 .nil)) (fun x => by kernel_rfl)

/-! 132: backstay/core.Done -/
noncomputable def core_Done (p0 : List Ins) (p1 : Core) (p2 : Int) : Option Core :=
  (
    (core_Right p0 p1).bind fun v3 =>
    if !v3 then
      some (true)
    else
      some ((Core.Halted p1)) : Option Bool).bind fun v3 =>
  if v3 then
    some (p1)
  else
    (getO p0 (Core.PC p1)).bind fun v5 =>
    let v7 : Int := w64 ((Core.PC p1) + (1 : Int))
    (
      if decide ((Ins.Op v5) = (1 : Int)) then
        (idxO (8 : Int) (Ins.A v5)).bind fun v12 =>
        (setO (Core.Regs p1) v12 (Ins.K v5)).bind fun v14 =>
        some ((v7, Core.setRegs p1 v14))
      else
        let v10 : Bool := decide ((Ins.Op v5) = (9 : Int))
        (
          if bif v10 then v10 else decide ((Ins.Op v5) = (11 : Int)) then
            (idxO (8 : Int) (Ins.A v5)).bind fun v13 =>
            (setO (Core.Regs p1) v13 p2).bind fun v15 =>
            some ((v7, Core.setRegs p1 v15))
          else
            (
              if decide ((Ins.Op v5) = (13 : Int)) then
                some ((w64 (Ins.K v5), p1))
              else
                (
                  if decide ((Ins.Op v5) = (14 : Int)) then
                    (idxO (8 : Int) (Ins.A v5)).bind fun v15 =>
                    (getO (Core.Regs p1) v15).bind fun v17 =>
                    some ((bif decide (v17 = (0 : Int)) then w64 (Ins.K v5) else v7, p1))
                  else
                    (
                      if decide ((Ins.Op v5) = (16 : Int)) then
                        some ((Core.PC p1, Core.setHalted p1 true))
                      else
                        (idxO (8 : Int) (Ins.B v5)).bind fun v17 =>
                        (getO (Core.Regs p1) v17).bind fun v19 =>
                        (idxO (8 : Int) (Ins.C v5)).bind fun v21 =>
                        (getO (Core.Regs p1) v21).bind fun v23 =>
                        let v24 : (Int × Bool) := word_Do (Ins.Op v5) v19 v23
                        (
                          if v24.2 then
                            (idxO (8 : Int) (Ins.A v5)).bind fun v27 =>
                            (setO (Core.Regs p1) v27 v24.1).bind fun v29 =>
                            some ((Core.setRegs p1 v29))
                          else
                            some (p1) : Option Core).bind fun v26 =>
                        some ((v7, v26)) : Option (Int × Core)).bind fun v15 =>
                    some ((v15.1, v15.2)) : Option (Int × Core)).bind fun v14 =>
                some ((v14.1, v14.2)) : Option (Int × Core)).bind fun v13 =>
            some ((v13.1, v13.2)) : Option (Int × Core)).bind fun v12 =>
        some ((v12.1, v12.2)) : Option (Int × Core)).bind fun v10 =>
    some ((Core.setPC v10.2 v10.1))
noncomputable def F_core_Done : FnT := ⟨[.sl tIns, tCore, .int .u32], [tCore], fun x => core_Done x.1 x.2.1 x.2.2⟩
noncomputable def A_core_Done : TA :=
 .sub0 [.bool] (
  .call 94 F_core_Right [.v 0, .v 1] 1 <|
  .prim (.un .not) [.v 3] <|
  .ite (.v 4) (
   .jmp 0 false [.c (.bool true)]) (
   .prim (.fld 2) [.v 1] <|
   .jmp 0 false [.v 5])) 1 <|
 .ite (.v 3) (
  .jmp 0 false [.v 1]) (
  .prim (.fld 1) [.v 1] <|
  .prim .get [.v 0, .v 4] <|
  .prim (.fld 1) [.v 1] <|
  .prim (.bin .add) [.v 6, .c (.int .i64 1)] <|
  .prim (.fld 0) [.v 5] <|
  .prim (.bin .eql) [.v 8, .c (.int .i64 1)] <|
  .sub0 [.int .i64, tCore] (
   .ite (.v 9) (
    .prim (.fld 1) [.v 5] <|
    .prim (.fld 4) [.v 5] <|
    .prim (.idxn 8) [.v 10] <|
    .prim (.fld 0) [.v 1] <|
    .prim .set [.v 13, .v 12, .v 11] <|
    .prim (.setf 0) [.v 1, .v 14] <|
    .jmp 0 false [.v 7, .v 15]) (
    .prim (.bin .eql) [.v 8, .c (.int .i64 9)] <|
    .subp [.bool] (
     .ite (.v 10) (
      .jmp 0 false [.v 10]) (
      .prim (.bin .eql) [.v 8, .c (.int .i64 11)] <|
      .jmp 0 false [.v 11])) 1 <|
    .sub0 [.int .i64, tCore] (
     .ite (.v 11) (
      .prim (.fld 1) [.v 5] <|
      .prim (.idxn 8) [.v 12] <|
      .prim (.fld 0) [.v 1] <|
      .prim .set [.v 14, .v 13, .v 2] <|
      .prim (.setf 0) [.v 1, .v 15] <|
      .jmp 0 false [.v 7, .v 16]) (
      .prim (.bin .eql) [.v 8, .c (.int .i64 13)] <|
      .sub0 [.int .i64, tCore] (
       .ite (.v 12) (
        .prim (.fld 4) [.v 5] <|
        .prim (.conv .i64) [.v 13] <|
        .jmp 0 false [.v 14, .v 1]) (
        .prim (.bin .eql) [.v 8, .c (.int .i64 14)] <|
        .sub0 [.int .i64, tCore] (
         .ite (.v 13) (
          .prim (.fld 1) [.v 5] <|
          .prim (.idxn 8) [.v 14] <|
          .prim (.fld 0) [.v 1] <|
          .prim .get [.v 16, .v 15] <|
          .prim (.bin .eql) [.v 17, .c (.int .u32 0)] <|
          .subp [.int .i64] (
           .ite (.v 18) (
            .prim (.fld 4) [.v 5] <|
            .prim (.conv .i64) [.v 19] <|
            .jmp 0 false [.v 20]) (
            .jmp 0 false [.v 7])) 1 <|
          .jmp 0 false [.v 19, .v 1]) (
          .prim (.bin .eql) [.v 8, .c (.int .i64 16)] <|
          .sub0 [.int .i64, tCore] (
           .ite (.v 14) (
            .prim (.fld 1) [.v 1] <|
            .prim (.setf 2) [.v 1, .c (.bool true)] <|
            .jmp 0 false [.v 15, .v 16]) (
            .prim (.fld 0) [.v 5] <|
            .prim (.fld 2) [.v 5] <|
            .prim (.idxn 8) [.v 16] <|
            .prim (.fld 0) [.v 1] <|
            .prim .get [.v 18, .v 17] <|
            .prim (.fld 3) [.v 5] <|
            .prim (.idxn 8) [.v 20] <|
            .prim (.fld 0) [.v 1] <|
            .prim .get [.v 22, .v 21] <|
            .callp 156 F_word_Do [.v 15, .v 19, .v 23] 2 <|
            .sub0 [tCore] (
             .ite (.v 25) (
              .prim (.fld 1) [.v 5] <|
              .prim (.idxn 8) [.v 26] <|
              .prim (.fld 0) [.v 1] <|
              .prim .set [.v 28, .v 27, .v 24] <|
              .prim (.setf 0) [.v 1, .v 29] <|
              .jmp 0 false [.v 30]) (
              .jmp 0 false [.v 1])) 1 <|
            .jmp 0 false [.v 7, .v 26])) 2 <|
          .jmp 0 false [.v 15, .v 16])) 2 <|
        .jmp 0 false [.v 14, .v 15])) 2 <|
      .jmp 0 false [.v 13, .v 14])) 2 <|
    .jmp 0 false [.v 12, .v 13])) 2 <|
  .prim (.setf 1) [.v 11, .v 10] <|
  .jmp 0 false [.v 12])
theorem a_core_Done : treeOf cx 12 132 = some A_core_Done.erase := by kernel_rfl
theorem k_core_Done : FnOk cx 12 noC 132 F_core_Done := fn_ok (t := A_core_Done) a_core_Done (fun _ => rfl) (ok_of [(94, F_core_Right), (156, F_word_Do.fn)] (by kernel_rfl) (.cons k_core_Right (.cons k_word_Do .nil))) (fun x => by kernel_rfl)

/-! 39: backstay/atom.Right -/
noncomputable def atom_Right_L1 (x0 : List (List Ins)) (x3 : List Core) (x4 : Int) (s : Int) : Option (Int ⊕ Unit ⊕ Bool) :=
  if decide (s < x4) then
    (getO x3 s).bind fun v7 =>
    (getO x0 s).bind fun v8 =>
    (core_Right v8 v7).bind fun v9 =>
    if !v9 then
      some (Sum.inr (Sum.inr (false)))
    else
      some (Sum.inl (w64 (s + (1 : Int))))
  else
    some (Sum.inr (Sum.inl ()))
noncomputable def atom_Right (p0 : List (List Ins)) (p1 : Atom) : Option Bool :=
  (
    (isa_All p0).bind fun v2 =>
    if !v2 then
      some (true)
    else
      if decide ((List.length (Atom.Mem p1) : Int) < (1 : Int)) then
        some (true)
      else
        if decide ((64 : Int) < (List.length (Atom.Mem p1) : Int)) then
          some (true)
        else
          some ((!decide ((List.length (Atom.Cores p1) : Int) = (List.length p0 : Int)))) : Option Bool).bind fun v2 =>
  if v2 then
    some (false)
  else
    let v4 : Int := (List.length (Atom.Cores p1) : Int)
    orExit (
      loopD (atom_Right_L1 p0 (Atom.Cores p1) v4) (0 : Int) : Option (Unit ⊕ Bool)) fun v5 =>
    some (true)
noncomputable def F_atom_Right : FnT := ⟨[.sl (.sl tIns), tAtom], [.bool], fun x => atom_Right x.1 x.2⟩
noncomputable def A_atom_Right : TA :=
 .sub0 [.bool] (
  .call 93 F_isa_All [.v 0] 1 <|
  .prim (.un .not) [.v 2] <|
  .ite (.v 3) (
   .jmp 0 false [.c (.bool true)]) (
   .prim (.fld 0) [.v 1] <|
   .prim .len [.v 4] <|
   .prim (.bin .lss) [.v 5, .c (.int .i64 1)] <|
   .ite (.v 6) (
    .jmp 0 false [.c (.bool true)]) (
    .prim (.fld 0) [.v 1] <|
    .prim .len [.v 7] <|
    .prim (.bin .gtr) [.v 8, .c (.int .i64 64)] <|
    .ite (.v 9) (
     .jmp 0 false [.c (.bool true)]) (
     .prim (.fld 1) [.v 1] <|
     .prim .len [.v 10] <|
     .prim .len [.v 0] <|
     .prim (.bin .neq) [.v 11, .v 12] <|
     .jmp 0 false [.v 13])))) 1 <|
 .ite (.v 2) (
  .jmp 0 false [.c (.bool false)]) (
  .prim (.fld 1) [.v 1] <|
  .prim .len [.v 3] <|
  .sub1 [] (
   .loop [.int .i64] [.c (.int .i64 0)] (
    .prim (.bin .lss) [.v 5, .v 4] <|
    .ite (.v 6) (
     .prim .get [.v 3, .v 5] <|
     .prim .get [.v 0, .v 5] <|
     .call 94 F_core_Right [.v 8, .v 7] 1 <|
     .prim (.un .not) [.v 9] <|
     .ite (.v 10) (
      .jmp 2 false [.c (.bool false)]) (
      .prim (.bin .add) [.v 5, .c (.int .i64 1)] <|
      .jmp 0 true [.v 11])) (
     .jmp 1 false []))) 0 <|
  .jmp 0 false [.c (.bool true)])
theorem a_atom_Right : treeOf cx 12 39 = some A_atom_Right.erase := by kernel_rfl
theorem k_atom_Right : FnOk cx 12 noC 39 F_atom_Right := fn_ok (t := A_atom_Right) a_atom_Right (fun _ => rfl) (ok_of [(93, F_isa_All), (94, F_core_Right)] (by kernel_rfl) (.cons k_isa_All (.cons k_core_Right .nil))) (fun x => by kernel_rfl)

/-! 54: backstay/atom.Step -/
noncomputable def atom_Step (p0 : List (List Ins)) (p1 : Atom) (p2 : Int) : Option (Atom × Int) :=
  (
    (cloneO 4 (Atom.Mem p1)).bind fun v4 =>
    (cloneO 48 (Atom.Cores p1)).bind fun v6 =>
    (cloneO 16 (Atom.Outs p1)).bind fun v8 =>
    some ((v4, v6, v8)) : Option ((List Int) × (List Core) × (List Told))).bind fun v3 =>
  (
    (atom_Right p0 p1).bind fun v6 =>
    if !v6 then
      some (true)
    else
      if decide (p2 < (0 : Int)) then
        some (true)
      else
        some ((decide ((List.length (Atom.Cores p1) : Int) ≤ p2))) : Option Bool).bind fun v6 =>
  if v6 then
    some ((Atom.mk v3.1 v3.2.1 v3.2.2, (1 : Int)))
  else
    (
      (getO p0 p2).bind fun v7 =>
      (idxO (List.length v3.2.1 : Int) p2).bind fun v8 =>
      (getO v3.2.1 v8).bind fun v9 =>
      (core_Wants v7 v9 (List.length v3.1 : Int)).bind fun v11 =>
      (
        if decide ((Want.Kind v11) = (4 : Int)) then
          (appO 16 v3.2.2 ([Told.mk p2 (Want.Val v11)] : List Told)).bind fun v17 =>
          some (v17)
        else
          some (v3.2.2) : Option (List Told)).bind fun v14 =>
      (getO p0 p2).bind fun v15 =>
      (idxO (List.length v3.2.1 : Int) p2).bind fun v16 =>
      (getO v3.2.1 v16).bind fun v17 =>
      (
        if (decide ((Want.Kind v11) < (1 : Int))) || ((decide ((3 : Int) < (Want.Kind v11))) || ((decide ((Want.At v11) < (0 : Int))) || (decide ((List.length v3.1 : Int) ≤ (Want.At v11))))) then
          some (((0 : Int), v3.1))
        else
          (idxO (List.length v3.1 : Int) (Want.At v11)).bind fun v20 =>
          (getO v3.1 v20).bind fun v21 =>
          (
            if (decide ((Want.Kind v11) = (2 : Int))) || ((decide ((Want.Kind v11) = (3 : Int))) && (decide (v21 = (Want.Old v11)))) then
              (idxO (List.length v3.1 : Int) (Want.At v11)).bind fun v25 =>
              (setO v3.1 v25 (Want.Val v11)).bind fun v26 =>
              some (v26)
            else
              some (v3.1) : Option (List Int)).bind fun v23 =>
          some ((v21, v23)) : Option (Int × (List Int))).bind fun v18 =>
      (core_Done v15 v17 v18.1).bind fun v20 =>
      (idxO (List.length v3.2.1 : Int) p2).bind fun v21 =>
      (setO v3.2.1 v21 v20).bind fun v22 =>
      some ((v18.2, v22, v14)) : Option ((List Int) × (List Core) × (List Told))).bind fun v7 =>
    some ((Atom.mk v7.1 v7.2.1 v7.2.2, (0 : Int)))
noncomputable def F_atom_Step : FnT := ⟨[.sl (.sl tIns), tAtom, .int .i64], [tAtom, .int .i64], fun x => atom_Step x.1 x.2.1 x.2.2⟩
noncomputable def A_atom_Step : TA :=
 .sub0 [.sl (.int .u32), .sl tCore, .sl tTold] (
  .prim (.fld 0) [.v 1] <|
  .prim (.clone 4) [.v 3] <|
  .prim (.fld 1) [.v 1] <|
  .prim (.clone 48) [.v 5] <|
  .prim (.fld 2) [.v 1] <|
  .prim (.clone 16) [.v 7] <|
  .jmp 0 false [.v 4, .v 6, .v 8]) 3 <|
 .sub0 [.bool] (
  .call 39 F_atom_Right [.v 0, .v 1] 1 <|
  .prim (.un .not) [.v 6] <|
  .ite (.v 7) (
   .jmp 0 false [.c (.bool true)]) (
   .prim (.bin .lss) [.v 2, .c (.int .i64 0)] <|
   .ite (.v 8) (
    .jmp 0 false [.c (.bool true)]) (
    .prim (.fld 1) [.v 1] <|
    .prim .len [.v 9] <|
    .prim (.bin .geq) [.v 2, .v 10] <|
    .jmp 0 false [.v 11]))) 1 <|
 .ite (.v 6) (
  .mkS tsAtom [.v 3, .v 4, .v 5] <|
  .jmp 0 false [.v 7, .c (.int .i64 1)]) (
  .sub0 [.sl (.int .u32), .sl tCore, .sl tTold] (
   .prim .get [.v 0, .v 2] <|
   .prim .idx [.v 4, .v 2] <|
   .prim .get [.v 4, .v 8] <|
   .prim .len [.v 3] <|
   .call 57 F_core_Wants [.v 7, .v 9, .v 10] 1 <|
   .prim (.fld 0) [.v 11] <|
   .prim (.bin .eql) [.v 12, .c (.int .i64 4)] <|
   .sub0 [.sl tTold] (
    .ite (.v 13) (
     .prim (.fld 2) [.v 11] <|
     .mkS tsTold [.v 2, .v 14] <|
     .mkL tTold [.v 15] <|
     .prim (.app 16) [.v 5, .v 16] <|
     .jmp 0 false [.v 17]) (
     .jmp 0 false [.v 5])) 1 <|
   .prim .get [.v 0, .v 2] <|
   .prim .idx [.v 4, .v 2] <|
   .prim .get [.v 4, .v 16] <|
   .sub0 [.int .u32, .sl (.int .u32)] (
    .subp [.bool] (
     .prim (.fld 0) [.v 11] <|
     .prim (.bin .lss) [.v 18, .c (.int .i64 1)] <|
     .ite (.v 19) (
      .jmp 0 false [.c (.bool true)]) (
      .prim (.fld 0) [.v 11] <|
      .prim (.bin .gtr) [.v 20, .c (.int .i64 3)] <|
      .ite (.v 21) (
       .jmp 0 false [.c (.bool true)]) (
       .prim (.fld 1) [.v 11] <|
       .prim (.bin .lss) [.v 22, .c (.int .i64 0)] <|
       .ite (.v 23) (
        .jmp 0 false [.c (.bool true)]) (
        .prim (.fld 1) [.v 11] <|
        .prim .len [.v 3] <|
        .prim (.bin .geq) [.v 24, .v 25] <|
        .jmp 0 false [.v 26])))) 1 <|
    .ite (.v 18) (
     .jmp 0 false [.c (.int .u32 0), .v 3]) (
     .prim (.fld 1) [.v 11] <|
     .prim .idx [.v 3, .v 19] <|
     .prim .get [.v 3, .v 20] <|
     .subp [.bool] (
      .prim (.fld 0) [.v 11] <|
      .prim (.bin .eql) [.v 22, .c (.int .i64 2)] <|
      .ite (.v 23) (
       .jmp 0 false [.c (.bool true)]) (
       .prim (.fld 0) [.v 11] <|
       .prim (.bin .eql) [.v 24, .c (.int .i64 3)] <|
       .ite (.v 25) (
        .prim (.fld 3) [.v 11] <|
        .prim (.bin .eql) [.v 21, .v 26] <|
        .jmp 0 false [.v 27]) (
        .jmp 0 false [.c (.bool false)]))) 1 <|
     .sub0 [.sl (.int .u32)] (
      .ite (.v 22) (
       .prim (.fld 1) [.v 11] <|
       .prim (.fld 2) [.v 11] <|
       .prim .idx [.v 3, .v 23] <|
       .prim .set [.v 3, .v 25, .v 24] <|
       .jmp 0 false [.v 26]) (
       .jmp 0 false [.v 3])) 1 <|
     .jmp 0 false [.v 21, .v 23])) 2 <|
   .call 132 F_core_Done [.v 15, .v 17, .v 18] 1 <|
   .prim .idx [.v 4, .v 2] <|
   .prim .set [.v 4, .v 21, .v 20] <|
   .jmp 0 false [.v 19, .v 22, .v 14]) 3 <|
  .mkS tsAtom [.v 7, .v 8, .v 9] <|
  .jmp 0 false [.v 10, .c (.int .i64 0)])
theorem a_atom_Step : treeOf cx 12 54 = some A_atom_Step.erase := by kernel_rfl
theorem k_atom_Step : FnOk cx 12 noC 54 F_atom_Step := fn_ok (t := A_atom_Step) a_atom_Step (fun _ => rfl) (ok_of [(39, F_atom_Right), (57, F_core_Wants), (132, F_core_Done)] (by kernel_rfl) (.cons k_atom_Right (.cons k_core_Wants (.cons k_core_Done .nil)))) (fun x => by kernel_rfl)

end Go.Proofs.Ytihchahfnhoapaa
