/- The types of this cut, and its functions as functions of plain typed data. Printed by a program of this claim's prover; each is checked here to be what the executor makes of the code. -/
import Derived.Test.YtihchahfnhoapaaProg
import Derived.Test.YtihchahfnhoapaaLim
import Derived.KernelRfl
set_option linter.unusedVariables false
set_option maxRecDepth 100000
namespace Go.Proofs.Ytihchahfnhoapaa
open Go.SX
abbrev tsIns : List Ty := [.int .i64, .int .i64, .int .i64, .int .i64, .int .u32]
abbrev tIns : Ty := .st tsIns
abbrev Ins : Type := Int × Int × Int × Int × Int
def Ins.mk (Op : Int) (A : Int) (B : Int) (C : Int) (K : Int) : Ins := (Op, A, B, C, K)
def Ins.Op (x : Ins) : Int := x.1
def Ins.A (x : Ins) : Int := x.2.1
def Ins.B (x : Ins) : Int := x.2.2.1
def Ins.C (x : Ins) : Int := x.2.2.2.1
def Ins.K (x : Ins) : Int := x.2.2.2.2
@[simp] theorem Ins.Op_mk (Op : Int) (A : Int) (B : Int) (C : Int) (K : Int) : Ins.Op (Ins.mk Op A B C K) = Op := rfl
@[simp] theorem Ins.A_mk (Op : Int) (A : Int) (B : Int) (C : Int) (K : Int) : Ins.A (Ins.mk Op A B C K) = A := rfl
@[simp] theorem Ins.B_mk (Op : Int) (A : Int) (B : Int) (C : Int) (K : Int) : Ins.B (Ins.mk Op A B C K) = B := rfl
@[simp] theorem Ins.C_mk (Op : Int) (A : Int) (B : Int) (C : Int) (K : Int) : Ins.C (Ins.mk Op A B C K) = C := rfl
@[simp] theorem Ins.K_mk (Op : Int) (A : Int) (B : Int) (C : Int) (K : Int) : Ins.K (Ins.mk Op A B C K) = K := rfl
@[simp] theorem Ins.eta (x : Ins) : Ins.mk (Ins.Op x) (Ins.A x) (Ins.B x) (Ins.C x) (Ins.K x) = x := rfl

abbrev tsDeed : List Ty := [.int .i64, .int .i64, .int .i64, .int .u32, .int .u32]
abbrev tDeed : Ty := .st tsDeed
abbrev Deed : Type := Int × Int × Int × Int × Int

abbrev tsMsg : List Ty := [.int .i64, .int .i64, .int .i64, .int .i64, .int .i64, .int .i64, .bool, .int .u32, .int .u32]
abbrev tMsg : Ty := .st tsMsg
abbrev Msg : Type := Int × Int × Int × Int × Int × Int × Bool × Int × Int

abbrev tsWant : List Ty := [.int .i64, .int .i64, .int .u32, .int .u32]
abbrev tWant : Ty := .st tsWant
abbrev Want : Type := Int × Int × Int × Int
def Want.mk (Kind : Int) (At : Int) (Val : Int) (Old : Int) : Want := (Kind, At, Val, Old)
def Want.Kind (x : Want) : Int := x.1
def Want.At (x : Want) : Int := x.2.1
def Want.Val (x : Want) : Int := x.2.2.1
def Want.Old (x : Want) : Int := x.2.2.2
def Want.setKind (x : Want) (v : Int) : Want := (v, x.2.1, x.2.2.1, x.2.2.2)
def Want.setAt (x : Want) (v : Int) : Want := (x.1, v, x.2.2.1, x.2.2.2)
def Want.setVal (x : Want) (v : Int) : Want := (x.1, x.2.1, v, x.2.2.2)
def Want.setOld (x : Want) (v : Int) : Want := (x.1, x.2.1, x.2.2.1, v)
@[simp] theorem Want.Kind_mk (Kind : Int) (At : Int) (Val : Int) (Old : Int) : Want.Kind (Want.mk Kind At Val Old) = Kind := rfl
@[simp] theorem Want.At_mk (Kind : Int) (At : Int) (Val : Int) (Old : Int) : Want.At (Want.mk Kind At Val Old) = At := rfl
@[simp] theorem Want.Val_mk (Kind : Int) (At : Int) (Val : Int) (Old : Int) : Want.Val (Want.mk Kind At Val Old) = Val := rfl
@[simp] theorem Want.Old_mk (Kind : Int) (At : Int) (Val : Int) (Old : Int) : Want.Old (Want.mk Kind At Val Old) = Old := rfl
@[simp] theorem Want.setKind_eq (x : Want) (v : Int) : Want.setKind x v = Want.mk v (Want.At x) (Want.Val x) (Want.Old x) := rfl
@[simp] theorem Want.setAt_eq (x : Want) (v : Int) : Want.setAt x v = Want.mk (Want.Kind x) v (Want.Val x) (Want.Old x) := rfl
@[simp] theorem Want.setVal_eq (x : Want) (v : Int) : Want.setVal x v = Want.mk (Want.Kind x) (Want.At x) v (Want.Old x) := rfl
@[simp] theorem Want.setOld_eq (x : Want) (v : Int) : Want.setOld x v = Want.mk (Want.Kind x) (Want.At x) (Want.Val x) v := rfl
@[simp] theorem Want.eta (x : Want) : Want.mk (Want.Kind x) (Want.At x) (Want.Val x) (Want.Old x) = x := rfl

abbrev tsWait : List Ty := [.int .i64, .bool, .bool, .bool, .bool, .bool, .int .i64, .int .i64, .int .u32]
abbrev tWait : Ty := .st tsWait
abbrev Wait : Type := Int × Bool × Bool × Bool × Bool × Bool × Int × Int × Int

abbrev tsruntime_boundsError : List Ty := [.int .i64, .int .i64, .bool, .int .u8]
abbrev truntime_boundsError : Ty := .st tsruntime_boundsError
abbrev runtime_boundsError : Type := Int × Int × Bool × Int

abbrev tsTold : List Ty := [.int .i64, .int .u32]
abbrev tTold : Ty := .st tsTold
abbrev Told : Type := Int × Int
def Told.mk (Core : Int) (Val : Int) : Told := (Core, Val)
def Told.Core (x : Told) : Int := x.1
def Told.Val (x : Told) : Int := x.2
@[simp] theorem Told.Core_mk (Core : Int) (Val : Int) : Told.Core (Told.mk Core Val) = Core := rfl
@[simp] theorem Told.Val_mk (Core : Int) (Val : Int) : Told.Val (Told.mk Core Val) = Val := rfl
@[simp] theorem Told.eta (x : Told) : Told.mk (Told.Core x) (Told.Val x) = x := rfl

abbrev tsruntime_errorAddressString : List Ty := [.str, .int .u64]
abbrev truntime_errorAddressString : Ty := .st tsruntime_errorAddressString
abbrev runtime_errorAddressString : Type := (List Int) × Int

abbrev tsl06_Do : List Ty := [.int .u8, tMsg, .int .u8, .int .u8]
abbrev tl06_Do : Ty := .st tsl06_Do
abbrev l06_Do : Type := Int × Ytihchahfnhoapaa.Msg × Int × Int

abbrev tsEntry : List Ty := [.int .i64, .sl .bool]
abbrev tEntry : Ty := .st tsEntry
abbrev Entry : Type := Int × (List Bool)

abbrev tsCore : List Ty := [.arr 8 (.int .u32), .int .i64, .bool]
abbrev tCore : Ty := .st tsCore
abbrev Core : Type := (List Int) × Int × Bool
def Core.mk (Regs : List Int) (PC : Int) (Halted : Bool) : Core := (Regs, PC, Halted)
def Core.Regs (x : Core) : List Int := x.1
def Core.PC (x : Core) : Int := x.2.1
def Core.Halted (x : Core) : Bool := x.2.2
def Core.setRegs (x : Core) (v : List Int) : Core := (v, x.2.1, x.2.2)
def Core.setPC (x : Core) (v : Int) : Core := (x.1, v, x.2.2)
def Core.setHalted (x : Core) (v : Bool) : Core := (x.1, x.2.1, v)
@[simp] theorem Core.Regs_mk (Regs : List Int) (PC : Int) (Halted : Bool) : Core.Regs (Core.mk Regs PC Halted) = Regs := rfl
@[simp] theorem Core.PC_mk (Regs : List Int) (PC : Int) (Halted : Bool) : Core.PC (Core.mk Regs PC Halted) = PC := rfl
@[simp] theorem Core.Halted_mk (Regs : List Int) (PC : Int) (Halted : Bool) : Core.Halted (Core.mk Regs PC Halted) = Halted := rfl
@[simp] theorem Core.setRegs_eq (x : Core) (v : List Int) : Core.setRegs x v = Core.mk v (Core.PC x) (Core.Halted x) := rfl
@[simp] theorem Core.setPC_eq (x : Core) (v : Int) : Core.setPC x v = Core.mk (Core.Regs x) v (Core.Halted x) := rfl
@[simp] theorem Core.setHalted_eq (x : Core) (v : Bool) : Core.setHalted x v = Core.mk (Core.Regs x) (Core.PC x) v := rfl
@[simp] theorem Core.eta (x : Core) : Core.mk (Core.Regs x) (Core.PC x) (Core.Halted x) = x := rfl

abbrev tsPool : List Ty := [.sl (.sl (.int .u8))]
abbrev tPool : Ty := .st tsPool
abbrev Pool : Type := List (List Int)

abbrev tsAtom : List Ty := [.sl (.int .u32), .sl tCore, .sl tTold]
abbrev tAtom : Ty := .st tsAtom
abbrev Atom : Type := (List Int) × (List Ytihchahfnhoapaa.Core) × (List Ytihchahfnhoapaa.Told)
def Atom.mk (Mem : List Int) (Cores : List Ytihchahfnhoapaa.Core) (Outs : List Ytihchahfnhoapaa.Told) : Atom := (Mem, Cores, Outs)
def Atom.Mem (x : Atom) : List Int := x.1
def Atom.Cores (x : Atom) : List Ytihchahfnhoapaa.Core := x.2.1
def Atom.Outs (x : Atom) : List Ytihchahfnhoapaa.Told := x.2.2
def Atom.setMem (x : Atom) (v : List Int) : Atom := (v, x.2.1, x.2.2)
@[simp] theorem Atom.Mem_mk (Mem : List Int) (Cores : List Ytihchahfnhoapaa.Core) (Outs : List Ytihchahfnhoapaa.Told) : Atom.Mem (Atom.mk Mem Cores Outs) = Mem := rfl
@[simp] theorem Atom.Cores_mk (Mem : List Int) (Cores : List Ytihchahfnhoapaa.Core) (Outs : List Ytihchahfnhoapaa.Told) : Atom.Cores (Atom.mk Mem Cores Outs) = Cores := rfl
@[simp] theorem Atom.Outs_mk (Mem : List Int) (Cores : List Ytihchahfnhoapaa.Core) (Outs : List Ytihchahfnhoapaa.Told) : Atom.Outs (Atom.mk Mem Cores Outs) = Outs := rfl
@[simp] theorem Atom.setMem_eq (x : Atom) (v : List Int) : Atom.setMem x v = Atom.mk v (Atom.Cores x) (Atom.Outs x) := rfl
@[simp] theorem Atom.eta (x : Atom) : Atom.mk (Atom.Mem x) (Atom.Cores x) (Atom.Outs x) = x := rfl

abbrev tsProto : List Ty := [.sl (.sl (.int .i64)), .sl (.sl (.int .u32)), .sl tWait, .sl (.int .u32), .sl tEntry, .sl (.int .i64), tPool]
abbrev tProto : Ty := .st tsProto
abbrev Proto : Type := (List (List Int)) × (List (List Int)) × (List Ytihchahfnhoapaa.Wait) × (List Int) × (List Ytihchahfnhoapaa.Entry) × (List Int) × Ytihchahfnhoapaa.Pool

def tys : List Ty := [.no, .no, .int .i64, .int .i64, .bool, .int .u8, .int .u8, truntime_boundsError, truntime_boundsError, .str, .str, .str, .int .u64, truntime_errorAddressString, truntime_errorAddressString, .no, .no, .no, .no, .no, .no, .int .i32, .sl (.sl (.int .i64)), .sl (.sl (.int .u32)), .sl tWait, .sl (.int .u32), .sl tEntry, .sl (.int .i64), .sl (.sl (.int .u8)), tPool, tPool, tProto, tProto, .no, .no, .no, .no, .no, .int .u32, .int .i64, .no, .no, .sl tMsg, .no, .no, tMsg, tMsg, .no, .no, .no, .no, .sl (.sl tIns), .no, .sl tCore, .sl tTold, tAtom, tAtom, .no, .no, .no, .no, .no, .no, .no, .no, .no, .sl (.int .u8), .no, .no, .no, .no, .no, .no, .no, .no, .no, .no, .sl tl06_Do, .sl (.arr 19 (.int .u8)), tl06_Do, tl06_Do, .no, .arr 19 (.int .u8), .int .u64, .no, .no, .no, .no, .no, .arr 8 (.int .u32), tCore, tCore, .no, tWant, tWant, .no, .sl tIns, .no, .no, .no, .no, .no, .no, .sl tDeed, tDeed, tDeed, .no, .no, .no, .no, .no, .no, .no, .no, .sl .bool, tEntry, tEntry, .no, .no, .no, .no, .no, tWait, tWait, .no, .no, .no, .no, .no, .no, .no, tIns, tIns, tTold, tTold, .no, .no, .no, .no, .no, .no, .no, .no, .no, .no, .no, .no, .no, .no, .no, .arr 5 (.int .i64), .no, .no, .no, .no, .no, .no, .no, .no, .no, .no, .no, .no, .no, .no, .no, .no, .no, .no, .no, .no, .no, .no, .no, .no, .no, .no, .no, .no, .no, .no, .no, .no, .no, .no, .int .u64, .no, .no, .no, .no, .no, .no, .no, .arr 4 (.int .u8), .no, .no, .no, .no, .no, .sl (.sl tDeed), .no, .no, .no, .no, .no, .no, .no, .no, .no, .no, .no, .no, .no, .no, .no, .no, .no, .no, .no, .no, .no, .int .u8, .int .u8, .no, .no, .int .i32, .int .i32, .no, .no, .no]
noncomputable def cx : Cx := { P := Try.prog, ty := tys, own := [], inl := [53, 85, 86, 100, 103, 107, 108, 113, 114, 128, 143, 144, 147, 149, 154, 163, 168], keepL := [], absL := [53, 84, 85, 95, 103, 113, 127], heads := [] }
theorem tyOk : TysOk cx := chkTys_ok (by kernel_rfl)
theorem mixed : Try.prog.follows .mixedOrders = true := by kernel_rfl
def noC : FuncId → List D → Option (List D) := fun _ _ => none
theorem noC_ok : CallsOk cx noC := fun _ _ _ _ _ _ _ h => by cases h
theorem call_now {f : FuncId} {ds rs : List D} (k d : Nat) (h : callF cx k 12 noC d f ds = some rs) : callL cx 12 noC f ds = some rs := (callL_some cx 12 noC).2 ⟨k, d, h⟩

/-! 34: backstay/backstayref02.Short -/
noncomputable def r02_Short_L1 (x0 : List (List Ins)) (s : Int) : Option (Int ⊕ Unit ⊕ Bool) :=
  if decide (s < (List.length x0 : Int)) then
    (getO x0 s).bind fun v6 =>
    if decide ((80 : Int) < (List.length v6 : Int)) then
      some (Sum.inr (Sum.inr (false)))
    else
      some (Sum.inl (w64 (s + (1 : Int))))
  else
    some (Sum.inr (Sum.inl ()))
noncomputable def r02_Short (p0 : List (List Ins)) : Option Bool :=
  if decide ((6 : Int) < (List.length p0 : Int)) then
    some (false)
  else
    orExit (
      loopD (r02_Short_L1 p0) (0 : Int) : Option (Unit ⊕ Bool)) fun v3 =>
    some (true)
noncomputable def F_r02_Short : FnT := ⟨[.sl (.sl tIns)], [.bool], fun x => r02_Short x⟩
noncomputable def A_r02_Short : TA :=
 .prim .len [.v 0] <|
 .prim (.bin .gtr) [.v 1, .c (.int .i64 6)] <|
 .ite (.v 2) (
  .jmp 0 false [.c (.bool false)]) (
  .sub1 [] (
   .loop [.int .i64] [.c (.int .i64 0)] (
    .prim .len [.v 0] <|
    .prim (.bin .lss) [.v 3, .v 4] <|
    .ite (.v 5) (
     .prim .get [.v 0, .v 3] <|
     .prim .len [.v 6] <|
     .prim (.bin .gtr) [.v 7, .c (.int .i64 80)] <|
     .ite (.v 8) (
      .jmp 2 false [.c (.bool false)]) (
      .prim (.bin .add) [.v 3, .c (.int .i64 1)] <|
      .jmp 0 true [.v 9])) (
     .jmp 1 false []))) 0 <|
  .jmp 0 false [.c (.bool true)])
theorem a_r02_Short : treeOf cx 12 34 = some A_r02_Short.erase := by kernel_rfl
theorem k_r02_Short : FnOk cx 12 noC 34 F_r02_Short := fn_ok (t := A_r02_Short) a_r02_Short (fun _ => rfl) (ok_of [] (by kernel_rfl) .nil) (fun x => by kernel_rfl)

/-! 55: backstay/backstayref04.Outs -/
noncomputable def r04_Outs_L1 (x0 : List Told) (x1 : List Told) (s : Int) : Option (Int ⊕ Unit ⊕ Bool) :=
  if decide (s < (List.length x0 : Int)) then
    (getO x0 s).bind fun v8 =>
    (getO x1 s).bind fun v9 =>
    if !(@decide (v8 = v9) (Ty.dec tTold _ _)) then
      some (Sum.inr (Sum.inr (false)))
    else
      some (Sum.inl (w64 (s + (1 : Int))))
  else
    some (Sum.inr (Sum.inl ()))
noncomputable def r04_Outs (p0 : List Told) (p1 : List Told) : Option Bool :=
  if !decide ((List.length p0 : Int) = (List.length p1 : Int)) then
    some (false)
  else
    orExit (
      loopD (r04_Outs_L1 p0 p1) (0 : Int) : Option (Unit ⊕ Bool)) fun v5 =>
    some (true)
noncomputable def F_r04_Outs : FnT := ⟨[.sl tTold, .sl tTold], [.bool], fun x => r04_Outs x.1 x.2⟩
noncomputable def A_r04_Outs : TA :=
 .prim .len [.v 0] <|
 .prim .len [.v 1] <|
 .prim (.bin .neq) [.v 2, .v 3] <|
 .ite (.v 4) (
  .jmp 0 false [.c (.bool false)]) (
  .sub1 [] (
   .loop [.int .i64] [.c (.int .i64 0)] (
    .prim .len [.v 0] <|
    .prim (.bin .lss) [.v 5, .v 6] <|
    .ite (.v 7) (
     .prim .get [.v 0, .v 5] <|
     .prim .get [.v 1, .v 5] <|
     .prim .eqv [.v 8, .v 9] <|
     .prim (.un .not) [.v 10] <|
     .ite (.v 11) (
      .jmp 2 false [.c (.bool false)]) (
      .prim (.bin .add) [.v 5, .c (.int .i64 1)] <|
      .jmp 0 true [.v 12])) (
     .jmp 1 false []))) 0 <|
  .jmp 0 false [.c (.bool true)])
theorem a_r04_Outs : treeOf cx 12 55 = some A_r04_Outs.erase := by kernel_rfl
theorem k_r04_Outs : FnOk cx 12 noC 55 F_r04_Outs := fn_ok (t := A_r04_Outs) a_r04_Outs (fun _ => rfl) (ok_of [] (by kernel_rfl) .nil) (fun x => by kernel_rfl)

/-! 58: backstay/atom.Act -/
noncomputable def atom_Act (p0 : List Int) (p1 : Want) : Option ((List Int) × Int) :=
  (cloneO 4 p0).bind fun v2 =>
  (
    if (decide ((Want.Kind p1) < (1 : Int))) || ((decide ((3 : Int) < (Want.Kind p1))) || ((decide ((Want.At p1) < (0 : Int))) || (decide ((List.length v2 : Int) ≤ (Want.At p1))))) then
      some (((0 : Int), v2))
    else
      (idxO (List.length v2 : Int) (Want.At p1)).bind fun v5 =>
      (getO v2 v5).bind fun v6 =>
      (
        if (decide ((Want.Kind p1) = (2 : Int))) || ((decide ((Want.Kind p1) = (3 : Int))) && (decide (v6 = (Want.Old p1)))) then
          (idxO (List.length v2 : Int) (Want.At p1)).bind fun v10 =>
          (setO v2 v10 (Want.Val p1)).bind fun v11 =>
          some (v11)
        else
          some (v2) : Option (List Int)).bind fun v8 =>
      some ((v6, v8)) : Option (Int × (List Int))).bind fun v3 =>
  some ((v3.2, v3.1))
noncomputable def F_atom_Act : FnT := ⟨[.sl (.int .u32), tWant], [.sl (.int .u32), .int .u32], fun x => atom_Act x.1 x.2⟩
noncomputable def A_atom_Act : TA :=
 .prim (.clone 4) [.v 0] <|
 .sub0 [.int .u32, .sl (.int .u32)] (
  .subp [.bool] (
   .prim (.fld 0) [.v 1] <|
   .prim (.bin .lss) [.v 3, .c (.int .i64 1)] <|
   .ite (.v 4) (
    .jmp 0 false [.c (.bool true)]) (
    .prim (.fld 0) [.v 1] <|
    .prim (.bin .gtr) [.v 5, .c (.int .i64 3)] <|
    .ite (.v 6) (
     .jmp 0 false [.c (.bool true)]) (
     .prim (.fld 1) [.v 1] <|
     .prim (.bin .lss) [.v 7, .c (.int .i64 0)] <|
     .ite (.v 8) (
      .jmp 0 false [.c (.bool true)]) (
      .prim (.fld 1) [.v 1] <|
      .prim .len [.v 2] <|
      .prim (.bin .geq) [.v 9, .v 10] <|
      .jmp 0 false [.v 11])))) 1 <|
  .ite (.v 3) (
   .jmp 0 false [.c (.int .u32 0), .v 2]) (
   .prim (.fld 1) [.v 1] <|
   .prim .idx [.v 2, .v 4] <|
   .prim .get [.v 2, .v 5] <|
   .subp [.bool] (
    .prim (.fld 0) [.v 1] <|
    .prim (.bin .eql) [.v 7, .c (.int .i64 2)] <|
    .ite (.v 8) (
     .jmp 0 false [.c (.bool true)]) (
     .prim (.fld 0) [.v 1] <|
     .prim (.bin .eql) [.v 9, .c (.int .i64 3)] <|
     .ite (.v 10) (
      .prim (.fld 3) [.v 1] <|
      .prim (.bin .eql) [.v 6, .v 11] <|
      .jmp 0 false [.v 12]) (
      .jmp 0 false [.c (.bool false)]))) 1 <|
   .sub0 [.sl (.int .u32)] (
    .ite (.v 7) (
     .prim (.fld 1) [.v 1] <|
     .prim (.fld 2) [.v 1] <|
     .prim .idx [.v 2, .v 8] <|
     .prim .set [.v 2, .v 10, .v 9] <|
     .jmp 0 false [.v 11]) (
     .jmp 0 false [.v 2])) 1 <|
   .jmp 0 false [.v 6, .v 8])) 2 <|
 .jmp 0 false [.v 4, .v 3]
theorem a_atom_Act : treeOf cx 12 58 = some A_atom_Act.erase := by kernel_rfl
theorem k_atom_Act : FnOk cx 12 noC 58 F_atom_Act := fn_ok (t := A_atom_Act) a_atom_Act (fun _ => rfl) (ok_of [] (by kernel_rfl) .nil) (fun x => by kernel_rfl)

/-! 60: backstay/backstayref04.Words -/
noncomputable def r04_Words_L1 (x0 : List Int) (x1 : List Int) (s : Int) : Option (Int ⊕ Unit ⊕ Bool) :=
  if decide (s < (List.length x0 : Int)) then
    (getO x0 s).bind fun v8 =>
    (getO x1 s).bind fun v9 =>
    if !decide (v8 = v9) then
      some (Sum.inr (Sum.inr (false)))
    else
      some (Sum.inl (w64 (s + (1 : Int))))
  else
    some (Sum.inr (Sum.inl ()))
noncomputable def r04_Words (p0 : List Int) (p1 : List Int) : Option Bool :=
  if !decide ((List.length p0 : Int) = (List.length p1 : Int)) then
    some (false)
  else
    orExit (
      loopD (r04_Words_L1 p0 p1) (0 : Int) : Option (Unit ⊕ Bool)) fun v5 =>
    some (true)
noncomputable def F_r04_Words : FnT := ⟨[.sl (.int .u32), .sl (.int .u32)], [.bool], fun x => r04_Words x.1 x.2⟩
noncomputable def A_r04_Words : TA :=
 .prim .len [.v 0] <|
 .prim .len [.v 1] <|
 .prim (.bin .neq) [.v 2, .v 3] <|
 .ite (.v 4) (
  .jmp 0 false [.c (.bool false)]) (
  .sub1 [] (
   .loop [.int .i64] [.c (.int .i64 0)] (
    .prim .len [.v 0] <|
    .prim (.bin .lss) [.v 5, .v 6] <|
    .ite (.v 7) (
     .prim .get [.v 0, .v 5] <|
     .prim .get [.v 1, .v 5] <|
     .prim (.bin .neq) [.v 8, .v 9] <|
     .ite (.v 10) (
      .jmp 2 false [.c (.bool false)]) (
      .prim (.bin .add) [.v 5, .c (.int .i64 1)] <|
      .jmp 0 true [.v 11])) (
     .jmp 1 false []))) 0 <|
  .jmp 0 false [.c (.bool true)])
theorem a_r04_Words : treeOf cx 12 60 = some A_r04_Words.erase := by kernel_rfl
theorem k_r04_Words : FnOk cx 12 noC 60 F_r04_Words := fn_ok (t := A_r04_Words) a_r04_Words (fun _ => rfl) (ok_of [] (by kernel_rfl) .nil) (fun x => by kernel_rfl)

/-! 61: backstay/backstayref04.Over -/
noncomputable def r04_Over_L1 (x0 : List Core) (s : Int) : Option (Int ⊕ Unit ⊕ Bool) :=
  if decide (s < (List.length x0 : Int)) then
    (getO x0 s).bind fun v4 =>
    if !(Core.Halted v4) then
      some (Sum.inr (Sum.inr (false)))
    else
      some (Sum.inl (w64 (s + (1 : Int))))
  else
    some (Sum.inr (Sum.inl ()))
noncomputable def r04_Over (p0 : List Core) : Option Bool :=
  orExit (
    loopD (r04_Over_L1 p0) (0 : Int) : Option (Unit ⊕ Bool)) fun v1 =>
  some (true)
noncomputable def F_r04_Over : FnT := ⟨[.sl tCore], [.bool], fun x => r04_Over x⟩
noncomputable def A_r04_Over : TA :=
 .sub1 [] (
  .loop [.int .i64] [.c (.int .i64 0)] (
   .prim .len [.v 0] <|
   .prim (.bin .lss) [.v 1, .v 2] <|
   .ite (.v 3) (
    .prim .get [.v 0, .v 1] <|
    .prim (.fld 2) [.v 4] <|
    .prim (.un .not) [.v 5] <|
    .ite (.v 6) (
     .jmp 2 false [.c (.bool false)]) (
     .prim (.bin .add) [.v 1, .c (.int .i64 1)] <|
     .jmp 0 true [.v 7])) (
    .jmp 1 false []))) 0 <|
 .jmp 0 false [.c (.bool true)]
theorem a_r04_Over : treeOf cx 12 61 = some A_r04_Over.erase := by kernel_rfl
theorem k_r04_Over : FnOk cx 12 noC 61 F_r04_Over := fn_ok (t := A_r04_Over) a_r04_Over (fun _ => rfl) (ok_of [] (by kernel_rfl) .nil) (fun x => by kernel_rfl)

/-! 90: backstay/backstayref04.Cores -/
noncomputable def r04_Cores_L1 (x0 : List Core) (x1 : List Core) (s : Int) : Option (Int ⊕ Unit ⊕ Bool) :=
  if decide (s < (List.length x0 : Int)) then
    (getO x0 s).bind fun v8 =>
    (getO x1 s).bind fun v9 =>
    if !(@decide (v8 = v9) (Ty.dec tCore _ _)) then
      some (Sum.inr (Sum.inr (false)))
    else
      some (Sum.inl (w64 (s + (1 : Int))))
  else
    some (Sum.inr (Sum.inl ()))
noncomputable def r04_Cores (p0 : List Core) (p1 : List Core) : Option Bool :=
  if !decide ((List.length p0 : Int) = (List.length p1 : Int)) then
    some (false)
  else
    orExit (
      loopD (r04_Cores_L1 p0 p1) (0 : Int) : Option (Unit ⊕ Bool)) fun v5 =>
    some (true)
noncomputable def F_r04_Cores : FnT := ⟨[.sl tCore, .sl tCore], [.bool], fun x => r04_Cores x.1 x.2⟩
noncomputable def A_r04_Cores : TA :=
 .prim .len [.v 0] <|
 .prim .len [.v 1] <|
 .prim (.bin .neq) [.v 2, .v 3] <|
 .ite (.v 4) (
  .jmp 0 false [.c (.bool false)]) (
  .sub1 [] (
   .loop [.int .i64] [.c (.int .i64 0)] (
    .prim .len [.v 0] <|
    .prim (.bin .lss) [.v 5, .v 6] <|
    .ite (.v 7) (
     .prim .get [.v 0, .v 5] <|
     .prim .get [.v 1, .v 5] <|
     .prim .eqv [.v 8, .v 9] <|
     .prim (.un .not) [.v 10] <|
     .ite (.v 11) (
      .jmp 2 false [.c (.bool false)]) (
      .prim (.bin .add) [.v 5, .c (.int .i64 1)] <|
      .jmp 0 true [.v 12])) (
     .jmp 1 false []))) 0 <|
  .jmp 0 false [.c (.bool true)])
theorem a_r04_Cores : treeOf cx 12 90 = some A_r04_Cores.erase := by kernel_rfl
theorem k_r04_Cores : FnOk cx 12 noC 90 F_r04_Cores := fn_ok (t := A_r04_Cores) a_r04_Cores (fun _ => rfl) (ok_of [] (by kernel_rfl) .nil) (fun x => by kernel_rfl)

/-! 105: backstay/atom.Over$1 -/
def atom_Over_1 (p0 : Core) : Bool :=
  !(Core.Halted p0)
def F_atom_Over_1 : PnT := ⟨[tCore], [.bool], fun x => atom_Over_1 x⟩
def A_atom_Over_1 : TA :=
 .prim (.fld 2) [.v 0] <|
 .prim (.un .not) [.v 1] <|
 .jmp 0 false [.v 2]
theorem a_atom_Over_1 : treeOf cx 12 105 = some A_atom_Over_1.erase := by kernel_rfl
theorem k_atom_Over_1 : FnOk cx 12 noC 105 F_atom_Over_1.fn := pn_ok (t := A_atom_Over_1) a_atom_Over_1 (fun _ => rfl) (ok_of [] (by kernel_rfl) .nil) (fun x => by kernel_rfl)

/-! 106: backstay/word.Place -/
noncomputable def word_Place (p0 : Int) (p1 : Int) : Option Int :=
  if decide (p1 < (1 : Int)) then
    some ((0 : Int))
  else
    (remO (wu64 p0) (wu64 p1)).bind fun v5 =>
    some ((w64 v5))
noncomputable def F_word_Place : FnT := ⟨[.int .u32, .int .i64], [.int .i64], fun x => word_Place x.1 x.2⟩
noncomputable def A_word_Place : TA :=
 .prim (.bin .lss) [.v 1, .c (.int .i64 1)] <|
 .ite (.v 2) (
  .jmp 0 false [.c (.int .i64 0)]) (
  .prim (.conv .u64) [.v 0] <|
  .prim (.conv .u64) [.v 1] <|
  .prim (.bin .rem) [.v 3, .v 4] <|
  .prim (.conv .i64) [.v 5] <|
  .jmp 0 false [.v 6])
theorem a_word_Place : treeOf cx 12 106 = some A_word_Place.erase := by kernel_rfl
theorem k_word_Place : FnOk cx 12 noC 106 F_word_Place := fn_ok (t := A_word_Place) a_word_Place (fun _ => rfl) (ok_of [] (by kernel_rfl) .nil) (fun x => by kernel_rfl)

/-! 109: backstay/backstayref04.With -/
noncomputable def r04_With (p0 : List Int) (p1 : Int) (p2 : Int) : Option (List Int) :=
  (appO 4 ([] : List Int) p0).bind fun v3 =>
  (idxO (List.length v3 : Int) p1).bind fun v4 =>
  (setO v3 v4 p2).bind fun v5 =>
  some (v5)
noncomputable def F_r04_With : FnT := ⟨[.sl (.int .u32), .int .i64, .int .u32], [.sl (.int .u32)], fun x => r04_With x.1 x.2.1 x.2.2⟩
noncomputable def A_r04_With : TA :=
 .primH (.app 4) (.sl (.int .u32)) [.c (.sl []), .v 0] <|
 .prim .idx [.v 3, .v 1] <|
 .prim .set [.v 3, .v 4, .v 2] <|
 .jmp 0 false [.v 5]
theorem a_r04_With : treeOf cx 12 109 = some A_r04_With.erase := by kernel_rfl
theorem k_r04_With : FnOk cx 12 noC 109 F_r04_With := fn_ok (t := A_r04_With) a_r04_With (fun _ => rfl) (ok_of [] (by kernel_rfl) .nil) (fun x => by kernel_rfl)

/-! 134: backstay/backstayref03.Place -/
noncomputable def r03_Place (p0 : Int) (p1 : Int) : Option Int :=
  if decide (p1 < (1 : Int)) then
    some ((0 : Int))
  else
    (remO (w64 p0) p1).bind fun v4 =>
    some (v4)
noncomputable def F_r03_Place : FnT := ⟨[.int .u32, .int .i64], [.int .i64], fun x => r03_Place x.1 x.2⟩
noncomputable def A_r03_Place : TA :=
 .prim (.bin .lss) [.v 1, .c (.int .i64 1)] <|
 .ite (.v 2) (
  .jmp 0 false [.c (.int .i64 0)]) (
  .prim (.conv .i64) [.v 0] <|
  .prim (.bin .rem) [.v 3, .v 1] <|
  .jmp 0 false [.v 4])
theorem a_r03_Place : treeOf cx 12 134 = some A_r03_Place.erase := by kernel_rfl
theorem k_r03_Place : FnOk cx 12 noC 134 F_r03_Place := fn_ok (t := A_r03_Place) a_r03_Place (fun _ => rfl) (ok_of [] (by kernel_rfl) .nil) (fun x => by kernel_rfl)

/-! 158: backstay/backstayref01.bits -/
noncomputable def r01_bits_L1 (x2 : Bool) (s : (Int × Int × Int × Int × Int)) : Option ((Int × Int × Int × Int × Int) ⊕ Int) :=
  if decide (s.2.2.2.2 < (32 : Int)) then
    (remO s.1 (2 : Int)).bind fun v9 =>
    let v10 : Bool := decide (v9 = (1 : Int))
    (remO s.2.1 (2 : Int)).bind fun v11 =>
    let v12 : Bool := decide (v11 = (1 : Int))
    (quoO .u32 s.1 (2 : Int)).bind fun v15 =>
    (quoO .u32 s.2.1 (2 : Int)).bind fun v16 =>
    some (Sum.inl (v15, v16, bif bif x2 then bif v10 then v12 || ((!x2) && (!decide (v10 = v12))) else (!x2) && (!decide (v10 = v12)) else (!x2) && (!decide (v10 = v12)) then wu32 (s.2.2.1 + s.2.2.2.1) else s.2.2.1, wu32 (s.2.2.2.1 * (2 : Int)), w64 (s.2.2.2.2 + (1 : Int))))
  else
    some (Sum.inr (s.2.2.1))
noncomputable def r01_bits (p0 : Int) (p1 : Int) (p2 : Bool) : Option Int :=
  (
    loopD (r01_bits_L1 p2) (p0, p1, (0 : Int), (1 : Int), (0 : Int)) : Option Int).bind fun v3 =>
  some (v3)
noncomputable def F_r01_bits : FnT := ⟨[.int .u32, .int .u32, .bool], [.int .u32], fun x => r01_bits x.1 x.2.1 x.2.2⟩
noncomputable def A_r01_bits : TA :=
 .sub0 [.int .u32] (
  .loop [.int .u32, .int .u32, .int .u32, .int .u32, .int .i64] [.v 0, .v 1, .c (.int .u32 0), .c (.int .u32 1), .c (.int .i64 0)] (
   .prim (.bin .lss) [.v 7, .c (.int .i64 32)] <|
   .ite (.v 8) (
    .prim (.bin .rem) [.v 3, .c (.int .u32 2)] <|
    .prim (.bin .eql) [.v 9, .c (.int .u32 1)] <|
    .prim (.bin .rem) [.v 4, .c (.int .u32 2)] <|
    .prim (.bin .eql) [.v 11, .c (.int .u32 1)] <|
    .subp [.bool] (
     .ite (.v 2) (
      .ite (.v 10) (
       .ite (.v 12) (
        .jmp 0 false [.c (.bool true)]) (
        .prim (.un .not) [.v 2] <|
        .ite (.v 13) (
         .prim (.bin .neq) [.v 10, .v 12] <|
         .jmp 0 false [.v 14]) (
         .jmp 0 false [.c (.bool false)]))) (
       .prim (.un .not) [.v 2] <|
       .ite (.v 13) (
        .prim (.bin .neq) [.v 10, .v 12] <|
        .jmp 0 false [.v 14]) (
        .jmp 0 false [.c (.bool false)]))) (
      .prim (.un .not) [.v 2] <|
      .ite (.v 13) (
       .prim (.bin .neq) [.v 10, .v 12] <|
       .jmp 0 false [.v 14]) (
       .jmp 0 false [.c (.bool false)]))) 1 <|
    .subp [.int .u32] (
     .ite (.v 13) (
      .prim (.bin .add) [.v 5, .v 6] <|
      .jmp 0 false [.v 14]) (
      .jmp 0 false [.v 5])) 1 <|
    .prim (.bin .quo) [.v 3, .c (.int .u32 2)] <|
    .prim (.bin .quo) [.v 4, .c (.int .u32 2)] <|
    .prim (.bin .mul) [.v 6, .c (.int .u32 2)] <|
    .prim (.bin .add) [.v 7, .c (.int .i64 1)] <|
    .jmp 0 true [.v 15, .v 16, .v 14, .v 17, .v 18]) (
    .jmp 1 false [.v 5]))) 1 <|
 .jmp 0 false [.v 3]
theorem a_r01_bits : treeOf cx 12 158 = some A_r01_bits.erase := by kernel_rfl
theorem k_r01_bits : FnOk cx 12 noC 158 F_r01_bits := fn_ok (t := A_r01_bits) a_r01_bits (fun _ => rfl) (ok_of [] (by kernel_rfl) .nil) (fun x => by kernel_rfl)

/-! 169: backstay/word.truth -/
def word_truth (p0 : Bool) : Int :=
  bif p0 then (1 : Int) else (0 : Int)
def F_word_truth : PnT := ⟨[.bool], [.int .u32], fun x => word_truth x⟩
def A_word_truth : TA :=
 .ite (.v 0) (
  .jmp 0 false [.c (.int .u32 1)]) (
  .jmp 0 false [.c (.int .u32 0)])
theorem a_word_truth : treeOf cx 12 169 = some A_word_truth.erase := by kernel_rfl
theorem k_word_truth : FnOk cx 12 noC 169 F_word_truth.fn := pn_ok (t := A_word_truth) a_word_truth (fun _ => rfl) (ok_of [] (by kernel_rfl) .nil) (fun x => by kernel_rfl)

/-! 170: backstay/backstayref02.reg -/
def r02_reg (p0 : Int) : Bool :=
  (decide ((0 : Int) ≤ p0)) && (decide (p0 < (8 : Int)))
def F_r02_reg : PnT := ⟨[.int .i64], [.bool], fun x => r02_reg x⟩
def A_r02_reg : TA :=
 .subp [.bool] (
  .prim (.bin .geq) [.v 0, .c (.int .i64 0)] <|
  .ite (.v 1) (
   .prim (.bin .lss) [.v 0, .c (.int .i64 8)] <|
   .jmp 0 false [.v 2]) (
   .jmp 0 false [.c (.bool false)])) 1 <|
 .jmp 0 false [.v 1]
theorem a_r02_reg : treeOf cx 12 170 = some A_r02_reg.erase := by kernel_rfl
theorem k_r02_reg : FnOk cx 12 noC 170 F_r02_reg.fn := pn_ok (t := A_r02_reg) a_r02_reg (fun _ => rfl) (ok_of [] (by kernel_rfl) .nil) (fun x => by kernel_rfl)

/-! 171: backstay/backstayref02.goal -/
def r02_goal (p0 : Int) (p1 : Int) : Bool :=
  (decide ((0 : Int) < p1)) && (decide ((w64 p0) < p1))
def F_r02_goal : PnT := ⟨[.int .u32, .int .i64], [.bool], fun x => r02_goal x.1 x.2⟩
def A_r02_goal : TA :=
 .subp [.bool] (
  .prim (.bin .gtr) [.v 1, .c (.int .i64 0)] <|
  .ite (.v 2) (
   .prim (.conv .i64) [.v 0] <|
   .prim (.bin .lss) [.v 3, .v 1] <|
   .jmp 0 false [.v 4]) (
   .jmp 0 false [.c (.bool false)])) 1 <|
 .jmp 0 false [.v 2]
theorem a_r02_goal : treeOf cx 12 171 = some A_r02_goal.erase := by kernel_rfl
theorem k_r02_goal : FnOk cx 12 noC 171 F_r02_goal.fn := pn_ok (t := A_r02_goal) a_r02_goal (fun _ => rfl) (ok_of [] (by kernel_rfl) .nil) (fun x => by kernel_rfl)

/-! 174: backstay/isa.register -/
def isa_register (p0 : Int) (p1 : Bool) : Bool :=
  bif !p1 then decide (p0 = (0 : Int)) else (decide ((0 : Int) ≤ p0)) && (decide (p0 < (8 : Int)))
def F_isa_register : PnT := ⟨[.int .i64, .bool], [.bool], fun x => isa_register x.1 x.2⟩
def A_isa_register : TA :=
 .prim (.un .not) [.v 1] <|
 .ite (.v 2) (
  .prim (.bin .eql) [.v 0, .c (.int .i64 0)] <|
  .jmp 0 false [.v 3]) (
  .subp [.bool] (
   .prim (.bin .geq) [.v 0, .c (.int .i64 0)] <|
   .ite (.v 3) (
    .prim (.bin .lss) [.v 0, .c (.int .i64 8)] <|
    .jmp 0 false [.v 4]) (
    .jmp 0 false [.c (.bool false)])) 1 <|
  .jmp 0 false [.v 3])
theorem a_isa_register : treeOf cx 12 174 = some A_isa_register.erase := by kernel_rfl
theorem k_isa_register : FnOk cx 12 noC 174 F_isa_register.fn := pn_ok (t := A_isa_register) a_isa_register (fun _ => rfl) (ok_of [] (by kernel_rfl) .nil) (fun x => by kernel_rfl)

/-! 177: backstay/isa.uses -/
def isa_uses (p0 : Int) : Int :=
  let v1 : Bool := decide (p0 = (1 : Int))
  let v3e : Bool := decide (p0 = (2 : Int))
  let v4e_e : Bool := decide (p0 = (3 : Int))
  let v5e_e_e : Bool := decide (p0 = (4 : Int))
  let v6e_e_e_e : Bool := decide (p0 = (5 : Int))
  let v7e_e_e_e_e : Bool := decide (p0 = (6 : Int))
  let v8e_e_e_e_e_e : Bool := decide (p0 = (7 : Int))
  let v9e_e_e_e_e_e_e : Bool := decide (p0 = (8 : Int))
  let v5ee : Bool := decide (p0 = (9 : Int))
  bif bif v1 then v1 else decide (p0 = (14 : Int)) then (9 : Int) else bif bif v3e then v3e else bif v4e_e then v4e_e else bif v5e_e_e then v5e_e_e else bif v6e_e_e_e then v6e_e_e_e else bif v7e_e_e_e_e then v7e_e_e_e_e else bif v8e_e_e_e_e_e then v8e_e_e_e_e_e else bif v9e_e_e_e_e_e_e then v9e_e_e_e_e_e_e else decide (p0 = (11 : Int)) then (7 : Int) else bif bif v5ee then v5ee else decide (p0 = (10 : Int)) then (3 : Int) else bif decide (p0 = (13 : Int)) then (8 : Int) else bif decide (p0 = (15 : Int)) then (1 : Int) else (0 : Int)
def F_isa_uses : PnT := ⟨[.int .i64], [.int .i64], fun x => isa_uses x⟩
def A_isa_uses : TA :=
 .prim (.bin .eql) [.v 0, .c (.int .i64 1)] <|
 .subp [.bool] (
  .ite (.v 1) (
   .jmp 0 false [.v 1]) (
   .prim (.bin .eql) [.v 0, .c (.int .i64 14)] <|
   .jmp 0 false [.v 2])) 1 <|
 .ite (.v 2) (
  .jmp 0 false [.c (.int .i64 9)]) (
  .prim (.bin .eql) [.v 0, .c (.int .i64 2)] <|
  .subp [.bool] (
   .ite (.v 3) (
    .jmp 0 false [.v 3]) (
    .prim (.bin .eql) [.v 0, .c (.int .i64 3)] <|
    .subp [.bool] (
     .ite (.v 4) (
      .jmp 0 false [.v 4]) (
      .prim (.bin .eql) [.v 0, .c (.int .i64 4)] <|
      .subp [.bool] (
       .ite (.v 5) (
        .jmp 0 false [.v 5]) (
        .prim (.bin .eql) [.v 0, .c (.int .i64 5)] <|
        .subp [.bool] (
         .ite (.v 6) (
          .jmp 0 false [.v 6]) (
          .prim (.bin .eql) [.v 0, .c (.int .i64 6)] <|
          .subp [.bool] (
           .ite (.v 7) (
            .jmp 0 false [.v 7]) (
            .prim (.bin .eql) [.v 0, .c (.int .i64 7)] <|
            .subp [.bool] (
             .ite (.v 8) (
              .jmp 0 false [.v 8]) (
              .prim (.bin .eql) [.v 0, .c (.int .i64 8)] <|
              .subp [.bool] (
               .ite (.v 9) (
                .jmp 0 false [.v 9]) (
                .prim (.bin .eql) [.v 0, .c (.int .i64 11)] <|
                .jmp 0 false [.v 10])) 1 <|
              .jmp 0 false [.v 10])) 1 <|
            .jmp 0 false [.v 9])) 1 <|
          .jmp 0 false [.v 8])) 1 <|
        .jmp 0 false [.v 7])) 1 <|
      .jmp 0 false [.v 6])) 1 <|
    .jmp 0 false [.v 5])) 1 <|
  .ite (.v 4) (
   .jmp 0 false [.c (.int .i64 7)]) (
   .prim (.bin .eql) [.v 0, .c (.int .i64 9)] <|
   .subp [.bool] (
    .ite (.v 5) (
     .jmp 0 false [.v 5]) (
     .prim (.bin .eql) [.v 0, .c (.int .i64 10)] <|
     .jmp 0 false [.v 6])) 1 <|
   .ite (.v 6) (
    .jmp 0 false [.c (.int .i64 3)]) (
    .prim (.bin .eql) [.v 0, .c (.int .i64 13)] <|
    .ite (.v 7) (
     .jmp 0 false [.c (.int .i64 8)]) (
     .prim (.bin .eql) [.v 0, .c (.int .i64 15)] <|
     .ite (.v 8) (
      .jmp 0 false [.c (.int .i64 1)]) (
      .jmp 0 false [.c (.int .i64 0)])))))
theorem a_isa_uses : treeOf cx 12 177 = some A_isa_uses.erase := by kernel_rfl
theorem k_isa_uses : FnOk cx 12 noC 177 F_isa_uses.fn := pn_ok (t := A_isa_uses) a_isa_uses (fun _ => rfl) (ok_of [] (by kernel_rfl) .nil) (fun x => by kernel_rfl)

/-! 37: backstay/backstayref04.Same -/
noncomputable def r04_Same (p0 : Atom) (p1 : Atom) : Option Bool :=
  (
    (r04_Words (Atom.Mem p0) (Atom.Mem p1)).bind fun v4 =>
    if v4 then
      (r04_Cores (Atom.Cores p0) (Atom.Cores p1)).bind fun v7 =>
      if v7 then
        (r04_Outs (Atom.Outs p0) (Atom.Outs p1)).bind fun v10 =>
        some (v10)
      else
        some (false)
    else
      some (false) : Option Bool).bind fun v2 =>
  some (v2)
noncomputable def F_r04_Same : FnT := ⟨[tAtom, tAtom], [.bool], fun x => r04_Same x.1 x.2⟩
noncomputable def A_r04_Same : TA :=
 .sub0 [.bool] (
  .prim (.fld 0) [.v 0] <|
  .prim (.fld 0) [.v 1] <|
  .call 60 F_r04_Words [.v 2, .v 3] 1 <|
  .ite (.v 4) (
   .prim (.fld 1) [.v 0] <|
   .prim (.fld 1) [.v 1] <|
   .call 90 F_r04_Cores [.v 5, .v 6] 1 <|
   .ite (.v 7) (
    .prim (.fld 2) [.v 0] <|
    .prim (.fld 2) [.v 1] <|
    .call 55 F_r04_Outs [.v 8, .v 9] 1 <|
    .jmp 0 false [.v 10]) (
    .jmp 0 false [.c (.bool false)])) (
   .jmp 0 false [.c (.bool false)])) 1 <|
 .jmp 0 false [.v 2]
theorem a_r04_Same : treeOf cx 12 37 = some A_r04_Same.erase := by kernel_rfl
theorem k_r04_Same : FnOk cx 12 noC 37 F_r04_Same := fn_ok (t := A_r04_Same) a_r04_Same (fun _ => rfl) (ok_of [(60, F_r04_Words), (90, F_r04_Cores), (55, F_r04_Outs)] (by kernel_rfl) (.cons k_r04_Words (.cons k_r04_Cores (.cons k_r04_Outs .nil)))) (fun x => by kernel_rfl)

/-! 56: backstay/atom.Over -/
noncomputable def atom_Over_L1 (x1 : List Core) (x2 : Int) (s : Int) : Option (Int ⊕ Unit ⊕ Int) :=
  if decide (s < x2) then
    (getO x1 s).bind fun v5 =>
    if atom_Over_1 v5 then
      some (Sum.inr (Sum.inr (s)))
    else
      some (Sum.inl (w64 (s + (1 : Int))))
  else
    some (Sum.inr (Sum.inl ()))
noncomputable def atom_Over (p0 : Atom) : Option Bool :=
  (
    (
      let v2 : Int := (List.length (Atom.Cores p0) : Int)
      orExit (
        loopD (atom_Over_L1 (Atom.Cores p0) v2) (0 : Int) : Option (Unit ⊕ Int)) fun v3 =>
      some ((-1 : Int)) : Option Int).bind fun v2 =>
    some ((decide ((0 : Int) ≤ v2))) : Option Bool).bind fun v2 =>
  some ((!v2))
noncomputable def F_atom_Over : FnT := ⟨[tAtom], [.bool], fun x => atom_Over x⟩
noncomputable def A_atom_Over : TA :=
 .prim (.fld 1) [.v 0] <|
 .sub0 [.bool] (
  .sub0 [.int .i64] (
   .prim .len [.v 1] <|
   .sub1 [] (
    .loop [.int .i64] [.c (.int .i64 0)] (
     .prim (.bin .lss) [.v 3, .v 2] <|
     .ite (.v 4) (
      .prim .get [.v 1, .v 3] <|
      .callp 105 F_atom_Over_1 [.v 5] 1 <|
      .ite (.v 6) (
       .jmp 2 false [.v 3]) (
       .prim (.bin .add) [.v 3, .c (.int .i64 1)] <|
       .jmp 0 true [.v 7])) (
      .jmp 1 false []))) 0 <|
   .jmp 0 false [.c (.int .i64 (-1))]) 1 <|
  .prim (.bin .geq) [.v 2, .c (.int .i64 0)] <|
  .jmp 0 false [.v 3]) 1 <|
 .prim (.un .not) [.v 2] <|
 .jmp 0 false [.v 3]
theorem a_atom_Over : treeOf cx 12 56 = some A_atom_Over.erase := by kernel_rfl
theorem k_atom_Over : FnOk cx 12 noC 56 F_atom_Over := fn_ok (t := A_atom_Over) a_atom_Over (fun _ => rfl) (ok_of [(105, F_atom_Over_1.fn)] (by kernel_rfl) (.cons k_atom_Over_1 .nil)) (fun x => by kernel_rfl)

/-! 59: backstay/backstayref04.Act -/
noncomputable def r04_Act (p0 : List Int) (p1 : Want) : Option ((List Int) × Int) :=
  if (decide ((Want.At p1) < (0 : Int))) || (decide ((List.length p0 : Int) ≤ (Want.At p1))) then
    some ((p0, (0 : Int)))
  else
    (getO p0 (Want.At p1)).bind fun v4 =>
    if decide ((Want.Kind p1) = (1 : Int)) then
      some ((p0, v4))
    else
      if decide ((Want.Kind p1) = (2 : Int)) then
        (r04_With p0 (Want.At p1) (Want.Val p1)).bind fun v10 =>
        some ((v10, v4))
      else
        if decide ((Want.Kind p1) = (3 : Int)) then
          if decide (v4 = (Want.Old p1)) then
            (r04_With p0 (Want.At p1) (Want.Val p1)).bind fun v13 =>
            some ((v13, v4))
          else
            some ((p0, v4))
        else
          some ((p0, (0 : Int)))
noncomputable def F_r04_Act : FnT := ⟨[.sl (.int .u32), tWant], [.sl (.int .u32), .int .u32], fun x => r04_Act x.1 x.2⟩
noncomputable def A_r04_Act : TA :=
 .subp [.bool] (
  .prim (.fld 1) [.v 1] <|
  .prim (.bin .lss) [.v 2, .c (.int .i64 0)] <|
  .ite (.v 3) (
   .jmp 0 false [.c (.bool true)]) (
   .prim (.fld 1) [.v 1] <|
   .prim .len [.v 0] <|
   .prim (.bin .geq) [.v 4, .v 5] <|
   .jmp 0 false [.v 6])) 1 <|
 .ite (.v 2) (
  .jmp 0 false [.v 0, .c (.int .u32 0)]) (
  .prim (.fld 1) [.v 1] <|
  .prim .get [.v 0, .v 3] <|
  .prim (.fld 0) [.v 1] <|
  .prim (.bin .eql) [.v 5, .c (.int .i64 1)] <|
  .ite (.v 6) (
   .jmp 0 false [.v 0, .v 4]) (
   .prim (.bin .eql) [.v 5, .c (.int .i64 2)] <|
   .ite (.v 7) (
    .prim (.fld 1) [.v 1] <|
    .prim (.fld 2) [.v 1] <|
    .call 109 F_r04_With [.v 0, .v 8, .v 9] 1 <|
    .jmp 0 false [.v 10, .v 4]) (
    .prim (.bin .eql) [.v 5, .c (.int .i64 3)] <|
    .ite (.v 8) (
     .prim (.fld 3) [.v 1] <|
     .prim (.bin .eql) [.v 4, .v 9] <|
     .ite (.v 10) (
      .prim (.fld 1) [.v 1] <|
      .prim (.fld 2) [.v 1] <|
      .call 109 F_r04_With [.v 0, .v 11, .v 12] 1 <|
      .jmp 0 false [.v 13, .v 4]) (
      .jmp 0 false [.v 0, .v 4])) (
     .jmp 0 false [.v 0, .c (.int .u32 0)]))))
theorem a_r04_Act : treeOf cx 12 59 = some A_r04_Act.erase := by kernel_rfl
theorem k_r04_Act : FnOk cx 12 noC 59 F_r04_Act := fn_ok (t := A_r04_Act) a_r04_Act (fun _ => rfl) (ok_of [(109, F_r04_With), (109, F_r04_With)] (by kernel_rfl) (.cons k_r04_With (.cons k_r04_With .nil))) (fun x => by kernel_rfl)

/-! 135: backstay/backstayref01.Do -/
noncomputable def r01_Do (p0 : Int) (p1 : Int) (p2 : Int) : Option (Int × Bool) :=
  let v3 : Int := wu64 p1
  let v4 : Int := wu64 p2
  if decide (p0 = (2 : Int)) then
    (remO (wu64 (v3 + v4)) (4294967296 : Int)).bind fun v7 =>
    some ((wu32 v7, true))
  else
    if decide (p0 = (3 : Int)) then
      (remO (wu64 ((wu64 (v3 + (4294967296 : Int))) - v4)) (4294967296 : Int)).bind fun v9 =>
      some ((wu32 v9, true))
    else
      if decide (p0 = (4 : Int)) then
        (remO (wu64 (v3 * v4)) (4294967296 : Int)).bind fun v9 =>
        some ((wu32 v9, true))
      else
        if decide (p0 = (5 : Int)) then
          (r01_bits p1 p2 true).bind fun v9 =>
          some ((v9, true))
        else
          if decide (p0 = (6 : Int)) then
            (r01_bits p1 p2 false).bind fun v10 =>
            some ((v10, true))
          else
            if bif decide (p0 = (7 : Int)) then (decide (p1 = p2)) || ((decide (p0 = (8 : Int))) && (decide (p1 < p2))) else (decide (p0 = (8 : Int))) && (decide (p1 < p2)) then
              some (((1 : Int), true))
            else
              some (((0 : Int), (decide (p0 = (7 : Int))) || (decide (p0 = (8 : Int)))))
noncomputable def F_r01_Do : FnT := ⟨[.int .i64, .int .u32, .int .u32], [.int .u32, .bool], fun x => r01_Do x.1 x.2.1 x.2.2⟩
noncomputable def A_r01_Do : TA :=
 .prim (.conv .u64) [.v 1] <|
 .prim (.conv .u64) [.v 2] <|
 .prim (.bin .eql) [.v 0, .c (.int .i64 2)] <|
 .ite (.v 5) (
  .prim (.bin .add) [.v 3, .v 4] <|
  .prim (.bin .rem) [.v 6, .c (.int .u64 4294967296)] <|
  .prim (.conv .u32) [.v 7] <|
  .jmp 0 false [.v 8, .c (.bool true)]) (
  .prim (.bin .eql) [.v 0, .c (.int .i64 3)] <|
  .ite (.v 6) (
   .prim (.bin .add) [.v 3, .c (.int .u64 4294967296)] <|
   .prim (.bin .sub) [.v 7, .v 4] <|
   .prim (.bin .rem) [.v 8, .c (.int .u64 4294967296)] <|
   .prim (.conv .u32) [.v 9] <|
   .jmp 0 false [.v 10, .c (.bool true)]) (
   .prim (.bin .eql) [.v 0, .c (.int .i64 4)] <|
   .ite (.v 7) (
    .prim (.bin .mul) [.v 3, .v 4] <|
    .prim (.bin .rem) [.v 8, .c (.int .u64 4294967296)] <|
    .prim (.conv .u32) [.v 9] <|
    .jmp 0 false [.v 10, .c (.bool true)]) (
    .prim (.bin .eql) [.v 0, .c (.int .i64 5)] <|
    .ite (.v 8) (
     .call 158 F_r01_bits [.v 1, .v 2, .c (.bool true)] 1 <|
     .jmp 0 false [.v 9, .c (.bool true)]) (
     .prim (.bin .eql) [.v 0, .c (.int .i64 6)] <|
     .ite (.v 9) (
      .call 158 F_r01_bits [.v 1, .v 2, .c (.bool false)] 1 <|
      .jmp 0 false [.v 10, .c (.bool true)]) (
      .subp [.bool] (
       .prim (.bin .eql) [.v 0, .c (.int .i64 7)] <|
       .ite (.v 10) (
        .prim (.bin .eql) [.v 1, .v 2] <|
        .ite (.v 11) (
         .jmp 0 false [.c (.bool true)]) (
         .prim (.bin .eql) [.v 0, .c (.int .i64 8)] <|
         .ite (.v 12) (
          .prim (.bin .lss) [.v 1, .v 2] <|
          .jmp 0 false [.v 13]) (
          .jmp 0 false [.c (.bool false)]))) (
        .prim (.bin .eql) [.v 0, .c (.int .i64 8)] <|
        .ite (.v 11) (
         .prim (.bin .lss) [.v 1, .v 2] <|
         .jmp 0 false [.v 12]) (
         .jmp 0 false [.c (.bool false)]))) 1 <|
      .ite (.v 10) (
       .jmp 0 false [.c (.int .u32 1), .c (.bool true)]) (
       .subp [.bool] (
        .prim (.bin .eql) [.v 0, .c (.int .i64 7)] <|
        .ite (.v 11) (
         .jmp 0 false [.c (.bool true)]) (
         .prim (.bin .eql) [.v 0, .c (.int .i64 8)] <|
         .jmp 0 false [.v 12])) 1 <|
       .jmp 0 false [.c (.int .u32 0), .v 11]))))))
theorem a_r01_Do : treeOf cx 12 135 = some A_r01_Do.erase := by kernel_rfl
theorem k_r01_Do : FnOk cx 12 noC 135 F_r01_Do := fn_ok (t := A_r01_Do) a_r01_Do (fun _ => rfl) (ok_of [(158, F_r01_bits), (158, F_r01_bits)] (by kernel_rfl) (.cons k_r01_bits (.cons k_r01_bits .nil))) (fun x => by kernel_rfl)

/-! 156: backstay/word.Do -/
def word_Do (p0 : Int) (p1 : Int) (p2 : Int) : (Int × Bool) :=
  (bif decide (p0 = (2 : Int)) then wu32 (p1 + p2) else bif decide (p0 = (3 : Int)) then wu32 (p1 - p2) else bif decide (p0 = (4 : Int)) then wu32 (p1 * p2) else bif decide (p0 = (5 : Int)) then bAnd .u32 p1 p2 else bif decide (p0 = (6 : Int)) then bXor .u32 p1 p2 else bif decide (p0 = (7 : Int)) then word_truth (decide (p1 = p2)) else bif decide (p0 = (8 : Int)) then word_truth (decide (p1 < p2)) else (0 : Int), (decide (p0 = (2 : Int))) || ((decide (p0 = (3 : Int))) || ((decide (p0 = (4 : Int))) || ((decide (p0 = (5 : Int))) || ((decide (p0 = (6 : Int))) || ((decide (p0 = (7 : Int))) || ((decide (p0 = (8 : Int))) && true)))))))
def F_word_Do : PnT := ⟨[.int .i64, .int .u32, .int .u32], [.int .u32, .bool], fun x => word_Do x.1 x.2.1 x.2.2⟩
def A_word_Do : TA :=
 .prim (.bin .eql) [.v 0, .c (.int .i64 2)] <|
 .ite (.v 3) (
  .prim (.bin .add) [.v 1, .v 2] <|
  .jmp 0 false [.v 4, .c (.bool true)]) (
  .prim (.bin .eql) [.v 0, .c (.int .i64 3)] <|
  .ite (.v 4) (
   .prim (.bin .sub) [.v 1, .v 2] <|
   .jmp 0 false [.v 5, .c (.bool true)]) (
   .prim (.bin .eql) [.v 0, .c (.int .i64 4)] <|
   .ite (.v 5) (
    .prim (.bin .mul) [.v 1, .v 2] <|
    .jmp 0 false [.v 6, .c (.bool true)]) (
    .prim (.bin .eql) [.v 0, .c (.int .i64 5)] <|
    .ite (.v 6) (
     .prim (.bin .and) [.v 1, .v 2] <|
     .jmp 0 false [.v 7, .c (.bool true)]) (
     .prim (.bin .eql) [.v 0, .c (.int .i64 6)] <|
     .ite (.v 7) (
      .prim (.bin .xor) [.v 1, .v 2] <|
      .jmp 0 false [.v 8, .c (.bool true)]) (
      .prim (.bin .eql) [.v 0, .c (.int .i64 7)] <|
      .ite (.v 8) (
       .prim (.bin .eql) [.v 1, .v 2] <|
       .callp 169 F_word_truth [.v 9] 1 <|
       .jmp 0 false [.v 10, .c (.bool true)]) (
       .prim (.bin .eql) [.v 0, .c (.int .i64 8)] <|
       .ite (.v 9) (
        .prim (.bin .lss) [.v 1, .v 2] <|
        .callp 169 F_word_truth [.v 10] 1 <|
        .jmp 0 false [.v 11, .c (.bool true)]) (
        .jmp 0 false [.c (.int .u32 0), .c (.bool false)])))))))
theorem a_word_Do : treeOf cx 12 156 = some A_word_Do.erase := by kernel_rfl
theorem k_word_Do : FnOk cx 12 noC 156 F_word_Do.fn := pn_ok (t := A_word_Do) a_word_Do (fun _ => rfl) (ok_of [(169, F_word_truth.fn), (169, F_word_truth.fn)] (by kernel_rfl) (.cons k_word_truth (.cons k_word_truth .nil))) (fun x => by kernel_rfl)

/-! 157: backstay/backstayref02.May -/
def r02_May (p0 : Ins) (p1 : Int) : Bool :=
  let v4e : Bool := decide ((Ins.Op p0) = (2 : Int))
  let v5e_e : Bool := decide ((Ins.Op p0) = (3 : Int))
  let v6e_e_e : Bool := decide ((Ins.Op p0) = (4 : Int))
  let v7e_e_e_e : Bool := decide ((Ins.Op p0) = (5 : Int))
  let v8e_e_e_e_e : Bool := decide ((Ins.Op p0) = (6 : Int))
  let v9e_e_e_e_e_e : Bool := decide ((Ins.Op p0) = (7 : Int))
  let v10e_e_e_e_e_e_e : Bool := decide ((Ins.Op p0) = (8 : Int))
  let v6ee : Bool := decide ((Ins.Op p0) = (9 : Int))
  let v8eee : Bool := decide ((Ins.Op p0) = (12 : Int))
  bif decide ((Ins.Op p0) = (1 : Int)) then (r02_reg (Ins.A p0)) && ((decide ((Ins.B p0) = (0 : Int))) && (decide ((Ins.C p0) = (0 : Int)))) else bif bif v4e then v4e else bif v5e_e then v5e_e else bif v6e_e_e then v6e_e_e else bif v7e_e_e_e then v7e_e_e_e else bif v8e_e_e_e_e then v8e_e_e_e_e else bif v9e_e_e_e_e_e then v9e_e_e_e_e_e else bif v10e_e_e_e_e_e_e then v10e_e_e_e_e_e_e else decide ((Ins.Op p0) = (11 : Int)) then (r02_reg (Ins.A p0)) && ((r02_reg (Ins.B p0)) && ((r02_reg (Ins.C p0)) && (decide ((Ins.K p0) = (0 : Int))))) else bif bif v6ee then v6ee else decide ((Ins.Op p0) = (10 : Int)) then (r02_reg (Ins.A p0)) && ((r02_reg (Ins.B p0)) && ((decide ((Ins.C p0) = (0 : Int))) && (decide ((Ins.K p0) = (0 : Int))))) else bif bif v8eee then v8eee else decide ((Ins.Op p0) = (16 : Int)) then (decide ((Ins.A p0) = (0 : Int))) && ((decide ((Ins.B p0) = (0 : Int))) && ((decide ((Ins.C p0) = (0 : Int))) && (decide ((Ins.K p0) = (0 : Int))))) else bif decide ((Ins.Op p0) = (13 : Int)) then (decide ((Ins.A p0) = (0 : Int))) && ((decide ((Ins.B p0) = (0 : Int))) && ((decide ((Ins.C p0) = (0 : Int))) && (r02_goal (Ins.K p0) p1))) else bif decide ((Ins.Op p0) = (14 : Int)) then (r02_reg (Ins.A p0)) && ((decide ((Ins.B p0) = (0 : Int))) && ((decide ((Ins.C p0) = (0 : Int))) && (r02_goal (Ins.K p0) p1))) else (decide ((Ins.Op p0) = (15 : Int))) && ((r02_reg (Ins.A p0)) && ((decide ((Ins.B p0) = (0 : Int))) && ((decide ((Ins.C p0) = (0 : Int))) && (decide ((Ins.K p0) = (0 : Int))))))
def F_r02_May : PnT := ⟨[tIns, .int .i64], [.bool], fun x => r02_May x.1 x.2⟩
def A_r02_May : TA :=
 .prim (.fld 0) [.v 0] <|
 .prim (.bin .eql) [.v 2, .c (.int .i64 1)] <|
 .ite (.v 3) (
  .subp [.bool] (
   .prim (.fld 1) [.v 0] <|
   .callp 170 F_r02_reg [.v 4] 1 <|
   .ite (.v 5) (
    .prim (.fld 2) [.v 0] <|
    .prim (.bin .eql) [.v 6, .c (.int .i64 0)] <|
    .ite (.v 7) (
     .prim (.fld 3) [.v 0] <|
     .prim (.bin .eql) [.v 8, .c (.int .i64 0)] <|
     .jmp 0 false [.v 9]) (
     .jmp 0 false [.c (.bool false)])) (
    .jmp 0 false [.c (.bool false)])) 1 <|
  .jmp 0 false [.v 4]) (
  .prim (.bin .eql) [.v 2, .c (.int .i64 2)] <|
  .subp [.bool] (
   .ite (.v 4) (
    .jmp 0 false [.v 4]) (
    .prim (.bin .eql) [.v 2, .c (.int .i64 3)] <|
    .subp [.bool] (
     .ite (.v 5) (
      .jmp 0 false [.v 5]) (
      .prim (.bin .eql) [.v 2, .c (.int .i64 4)] <|
      .subp [.bool] (
       .ite (.v 6) (
        .jmp 0 false [.v 6]) (
        .prim (.bin .eql) [.v 2, .c (.int .i64 5)] <|
        .subp [.bool] (
         .ite (.v 7) (
          .jmp 0 false [.v 7]) (
          .prim (.bin .eql) [.v 2, .c (.int .i64 6)] <|
          .subp [.bool] (
           .ite (.v 8) (
            .jmp 0 false [.v 8]) (
            .prim (.bin .eql) [.v 2, .c (.int .i64 7)] <|
            .subp [.bool] (
             .ite (.v 9) (
              .jmp 0 false [.v 9]) (
              .prim (.bin .eql) [.v 2, .c (.int .i64 8)] <|
              .subp [.bool] (
               .ite (.v 10) (
                .jmp 0 false [.v 10]) (
                .prim (.bin .eql) [.v 2, .c (.int .i64 11)] <|
                .jmp 0 false [.v 11])) 1 <|
              .jmp 0 false [.v 11])) 1 <|
            .jmp 0 false [.v 10])) 1 <|
          .jmp 0 false [.v 9])) 1 <|
        .jmp 0 false [.v 8])) 1 <|
      .jmp 0 false [.v 7])) 1 <|
    .jmp 0 false [.v 6])) 1 <|
  .ite (.v 5) (
   .subp [.bool] (
    .prim (.fld 1) [.v 0] <|
    .callp 170 F_r02_reg [.v 6] 1 <|
    .ite (.v 7) (
     .prim (.fld 2) [.v 0] <|
     .callp 170 F_r02_reg [.v 8] 1 <|
     .ite (.v 9) (
      .prim (.fld 3) [.v 0] <|
      .callp 170 F_r02_reg [.v 10] 1 <|
      .ite (.v 11) (
       .prim (.fld 4) [.v 0] <|
       .prim (.bin .eql) [.v 12, .c (.int .u32 0)] <|
       .jmp 0 false [.v 13]) (
       .jmp 0 false [.c (.bool false)])) (
      .jmp 0 false [.c (.bool false)])) (
     .jmp 0 false [.c (.bool false)])) 1 <|
   .jmp 0 false [.v 6]) (
   .prim (.bin .eql) [.v 2, .c (.int .i64 9)] <|
   .subp [.bool] (
    .ite (.v 6) (
     .jmp 0 false [.v 6]) (
     .prim (.bin .eql) [.v 2, .c (.int .i64 10)] <|
     .jmp 0 false [.v 7])) 1 <|
   .ite (.v 7) (
    .subp [.bool] (
     .prim (.fld 1) [.v 0] <|
     .callp 170 F_r02_reg [.v 8] 1 <|
     .ite (.v 9) (
      .prim (.fld 2) [.v 0] <|
      .callp 170 F_r02_reg [.v 10] 1 <|
      .ite (.v 11) (
       .prim (.fld 3) [.v 0] <|
       .prim (.bin .eql) [.v 12, .c (.int .i64 0)] <|
       .ite (.v 13) (
        .prim (.fld 4) [.v 0] <|
        .prim (.bin .eql) [.v 14, .c (.int .u32 0)] <|
        .jmp 0 false [.v 15]) (
        .jmp 0 false [.c (.bool false)])) (
       .jmp 0 false [.c (.bool false)])) (
      .jmp 0 false [.c (.bool false)])) 1 <|
    .jmp 0 false [.v 8]) (
    .prim (.bin .eql) [.v 2, .c (.int .i64 12)] <|
    .subp [.bool] (
     .ite (.v 8) (
      .jmp 0 false [.v 8]) (
      .prim (.bin .eql) [.v 2, .c (.int .i64 16)] <|
      .jmp 0 false [.v 9])) 1 <|
    .ite (.v 9) (
     .subp [.bool] (
      .prim (.fld 1) [.v 0] <|
      .prim (.bin .eql) [.v 10, .c (.int .i64 0)] <|
      .ite (.v 11) (
       .prim (.fld 2) [.v 0] <|
       .prim (.bin .eql) [.v 12, .c (.int .i64 0)] <|
       .ite (.v 13) (
        .prim (.fld 3) [.v 0] <|
        .prim (.bin .eql) [.v 14, .c (.int .i64 0)] <|
        .ite (.v 15) (
         .prim (.fld 4) [.v 0] <|
         .prim (.bin .eql) [.v 16, .c (.int .u32 0)] <|
         .jmp 0 false [.v 17]) (
         .jmp 0 false [.c (.bool false)])) (
        .jmp 0 false [.c (.bool false)])) (
       .jmp 0 false [.c (.bool false)])) 1 <|
     .jmp 0 false [.v 10]) (
     .prim (.bin .eql) [.v 2, .c (.int .i64 13)] <|
     .ite (.v 10) (
      .subp [.bool] (
       .prim (.fld 1) [.v 0] <|
       .prim (.bin .eql) [.v 11, .c (.int .i64 0)] <|
       .ite (.v 12) (
        .prim (.fld 2) [.v 0] <|
        .prim (.bin .eql) [.v 13, .c (.int .i64 0)] <|
        .ite (.v 14) (
         .prim (.fld 3) [.v 0] <|
         .prim (.bin .eql) [.v 15, .c (.int .i64 0)] <|
         .ite (.v 16) (
          .prim (.fld 4) [.v 0] <|
          .callp 171 F_r02_goal [.v 17, .v 1] 1 <|
          .jmp 0 false [.v 18]) (
          .jmp 0 false [.c (.bool false)])) (
         .jmp 0 false [.c (.bool false)])) (
        .jmp 0 false [.c (.bool false)])) 1 <|
      .jmp 0 false [.v 11]) (
      .prim (.bin .eql) [.v 2, .c (.int .i64 14)] <|
      .ite (.v 11) (
       .subp [.bool] (
        .prim (.fld 1) [.v 0] <|
        .callp 170 F_r02_reg [.v 12] 1 <|
        .ite (.v 13) (
         .prim (.fld 2) [.v 0] <|
         .prim (.bin .eql) [.v 14, .c (.int .i64 0)] <|
         .ite (.v 15) (
          .prim (.fld 3) [.v 0] <|
          .prim (.bin .eql) [.v 16, .c (.int .i64 0)] <|
          .ite (.v 17) (
           .prim (.fld 4) [.v 0] <|
           .callp 171 F_r02_goal [.v 18, .v 1] 1 <|
           .jmp 0 false [.v 19]) (
           .jmp 0 false [.c (.bool false)])) (
          .jmp 0 false [.c (.bool false)])) (
         .jmp 0 false [.c (.bool false)])) 1 <|
       .jmp 0 false [.v 12]) (
       .prim (.bin .eql) [.v 2, .c (.int .i64 15)] <|
       .ite (.v 12) (
        .subp [.bool] (
         .prim (.fld 1) [.v 0] <|
         .callp 170 F_r02_reg [.v 13] 1 <|
         .ite (.v 14) (
          .prim (.fld 2) [.v 0] <|
          .prim (.bin .eql) [.v 15, .c (.int .i64 0)] <|
          .ite (.v 16) (
           .prim (.fld 3) [.v 0] <|
           .prim (.bin .eql) [.v 17, .c (.int .i64 0)] <|
           .ite (.v 18) (
            .prim (.fld 4) [.v 0] <|
            .prim (.bin .eql) [.v 19, .c (.int .u32 0)] <|
            .jmp 0 false [.v 20]) (
            .jmp 0 false [.c (.bool false)])) (
           .jmp 0 false [.c (.bool false)])) (
          .jmp 0 false [.c (.bool false)])) 1 <|
        .jmp 0 false [.v 13]) (
        .jmp 0 false [.c (.bool false)])))))))
theorem a_r02_May : treeOf cx 12 157 = some A_r02_May.erase := by kernel_rfl
theorem k_r02_May : FnOk cx 12 noC 157 F_r02_May.fn := pn_ok (t := A_r02_May) a_r02_May (fun _ => rfl) (ok_of [(170, F_r02_reg.fn), (170, F_r02_reg.fn), (170, F_r02_reg.fn), (170, F_r02_reg.fn), (170, F_r02_reg.fn), (170, F_r02_reg.fn), (171, F_r02_goal.fn), (170, F_r02_reg.fn), (171, F_r02_goal.fn), (170, F_r02_reg.fn)] (by kernel_rfl) (.cons k_r02_reg (.cons k_r02_reg (.cons k_r02_reg (.cons k_r02_reg (.cons k_r02_reg (.cons k_r02_reg (.cons k_r02_goal (.cons k_r02_reg (.cons k_r02_goal (.cons k_r02_reg .nil))))))))))) (fun x => by kernel_rfl)

/-! 173: backstay/isa.Uses -/
def isa_Uses (p0 : Int) : (Bool × Bool × Bool × Bool) :=
  let v1 : Int := isa_uses p0
  (!decide ((bAnd .i64 v1 (1 : Int)) = (0 : Int)), !decide ((bAnd .i64 v1 (2 : Int)) = (0 : Int)), !decide ((bAnd .i64 v1 (4 : Int)) = (0 : Int)), !decide ((bAnd .i64 v1 (8 : Int)) = (0 : Int)))
def F_isa_Uses : PnT := ⟨[.int .i64], [.bool, .bool, .bool, .bool], fun x => isa_Uses x⟩
def A_isa_Uses : TA :=
 .callp 177 F_isa_uses [.v 0] 1 <|
 .prim (.bin .and) [.v 1, .c (.int .i64 1)] <|
 .prim (.bin .neq) [.v 2, .c (.int .i64 0)] <|
 .prim (.bin .and) [.v 1, .c (.int .i64 2)] <|
 .prim (.bin .neq) [.v 4, .c (.int .i64 0)] <|
 .prim (.bin .and) [.v 1, .c (.int .i64 4)] <|
 .prim (.bin .neq) [.v 6, .c (.int .i64 0)] <|
 .prim (.bin .and) [.v 1, .c (.int .i64 8)] <|
 .prim (.bin .neq) [.v 8, .c (.int .i64 0)] <|
 .jmp 0 false [.v 3, .v 5, .v 7, .v 9]
theorem a_isa_Uses : treeOf cx 12 173 = some A_isa_Uses.erase := by kernel_rfl
theorem k_isa_Uses : FnOk cx 12 noC 173 F_isa_Uses.fn := pn_ok (t := A_isa_Uses) a_isa_Uses (fun _ => rfl) (ok_of [(177, F_isa_uses.fn)] (by kernel_rfl) (.cons k_isa_uses .nil)) (fun x => by kernel_rfl)

/-! 133: backstay/backstayref02.Right -/
noncomputable def r02_Right_L1 (x0 : List Ins) (s : Int) : Option (Int ⊕ Unit ⊕ Bool) :=
  if decide (s < (List.length x0 : Int)) then
    (getO x0 s).bind fun v5 =>
    if !(r02_May v5 (List.length x0 : Int)) then
      some (Sum.inr (Sum.inr (false)))
    else
      some (Sum.inl (w64 (s + (1 : Int))))
  else
    some (Sum.inr (Sum.inl ()))
noncomputable def r02_Right (p0 : List Ins) : Option Bool :=
  if (decide ((List.length p0 : Int) = (0 : Int))) || (decide ((64 : Int) < (List.length p0 : Int))) then
    some (false)
  else
    orExit (
      loopD (r02_Right_L1 p0) (0 : Int) : Option (Unit ⊕ Bool)) fun v2 =>
    (
      (getO p0 (w64 ((List.length p0 : Int) - (1 : Int)))).bind fun v4 =>
      if decide ((Ins.Op v4) = (16 : Int)) then
        some (true)
      else
        (getO p0 (w64 ((List.length p0 : Int) - (1 : Int)))).bind fun v9 =>
        some ((decide ((Ins.Op v9) = (13 : Int)))) : Option Bool).bind fun v2 =>
    some (v2)
noncomputable def F_r02_Right : FnT := ⟨[.sl tIns], [.bool], fun x => r02_Right x⟩
noncomputable def A_r02_Right : TA :=
 .subp [.bool] (
  .prim .len [.v 0] <|
  .prim (.bin .eql) [.v 1, .c (.int .i64 0)] <|
  .ite (.v 2) (
   .jmp 0 false [.c (.bool true)]) (
   .prim .len [.v 0] <|
   .prim (.bin .gtr) [.v 3, .c (.int .i64 64)] <|
   .jmp 0 false [.v 4])) 1 <|
 .ite (.v 1) (
  .jmp 0 false [.c (.bool false)]) (
  .sub1 [] (
   .loop [.int .i64] [.c (.int .i64 0)] (
    .prim .len [.v 0] <|
    .prim (.bin .lss) [.v 2, .v 3] <|
    .ite (.v 4) (
     .prim .get [.v 0, .v 2] <|
     .prim .len [.v 0] <|
     .callp 157 F_r02_May [.v 5, .v 6] 1 <|
     .prim (.un .not) [.v 7] <|
     .ite (.v 8) (
      .jmp 2 false [.c (.bool false)]) (
      .prim (.bin .add) [.v 2, .c (.int .i64 1)] <|
      .jmp 0 true [.v 9])) (
     .jmp 1 false []))) 0 <|
  .sub0 [.bool] (
   .prim .len [.v 0] <|
   .prim (.bin .sub) [.v 2, .c (.int .i64 1)] <|
   .prim .get [.v 0, .v 3] <|
   .prim (.fld 0) [.v 4] <|
   .prim (.bin .eql) [.v 5, .c (.int .i64 16)] <|
   .ite (.v 6) (
    .jmp 0 false [.c (.bool true)]) (
    .prim .len [.v 0] <|
    .prim (.bin .sub) [.v 7, .c (.int .i64 1)] <|
    .prim .get [.v 0, .v 8] <|
    .prim (.fld 0) [.v 9] <|
    .prim (.bin .eql) [.v 10, .c (.int .i64 13)] <|
    .jmp 0 false [.v 11])) 1 <|
  .jmp 0 false [.v 2])
theorem a_r02_Right : treeOf cx 12 133 = some A_r02_Right.erase := by kernel_rfl
theorem k_r02_Right : FnOk cx 12 noC 133 F_r02_Right := fn_ok (t := A_r02_Right) a_r02_Right (fun _ => rfl) (ok_of [(157, F_r02_May.fn)] (by kernel_rfl) (.cons k_r02_May .nil)) (fun x => by kernel_rfl)

/-! 162: backstay/isa.May -/
def isa_May (p0 : Ins) (p1 : Int) : Bool :=
  let v3 : (Bool × Bool × Bool × Bool) := isa_Uses (Ins.Op p0)
  bif (decide ((Ins.Op p0) < (1 : Int))) || ((decide ((16 : Int) < (Ins.Op p0))) || ((!(isa_register (Ins.A p0) v3.1)) || ((!(isa_register (Ins.B p0) v3.2.1)) || (!(isa_register (Ins.C p0) v3.2.2.1))))) then false else (decide ((Ins.Op p0) = (1 : Int))) || (bif !v3.2.2.2 then decide ((Ins.K p0) = (0 : Int)) else (decide ((0 : Int) < p1)) && (decide ((wu64 (Ins.K p0)) < (wu64 p1))))
def F_isa_May : PnT := ⟨[tIns, .int .i64], [.bool], fun x => isa_May x.1 x.2⟩
def A_isa_May : TA :=
 .prim (.fld 0) [.v 0] <|
 .callp 173 F_isa_Uses [.v 2] 4 <|
 .subp [.bool] (
  .prim (.fld 0) [.v 0] <|
  .prim (.bin .lss) [.v 7, .c (.int .i64 1)] <|
  .ite (.v 8) (
   .jmp 0 false [.c (.bool true)]) (
   .prim (.fld 0) [.v 0] <|
   .prim (.bin .gtr) [.v 9, .c (.int .i64 16)] <|
   .ite (.v 10) (
    .jmp 0 false [.c (.bool true)]) (
    .prim (.fld 1) [.v 0] <|
    .callp 174 F_isa_register [.v 11, .v 3] 1 <|
    .prim (.un .not) [.v 12] <|
    .ite (.v 13) (
     .jmp 0 false [.c (.bool true)]) (
     .prim (.fld 2) [.v 0] <|
     .callp 174 F_isa_register [.v 14, .v 4] 1 <|
     .prim (.un .not) [.v 15] <|
     .ite (.v 16) (
      .jmp 0 false [.c (.bool true)]) (
      .prim (.fld 3) [.v 0] <|
      .callp 174 F_isa_register [.v 17, .v 5] 1 <|
      .prim (.un .not) [.v 18] <|
      .jmp 0 false [.v 19]))))) 1 <|
 .ite (.v 7) (
  .jmp 0 false [.c (.bool false)]) (
  .prim (.fld 0) [.v 0] <|
  .prim (.bin .eql) [.v 8, .c (.int .i64 1)] <|
  .ite (.v 9) (
   .jmp 0 false [.c (.bool true)]) (
   .prim (.un .not) [.v 6] <|
   .ite (.v 10) (
    .prim (.fld 4) [.v 0] <|
    .prim (.bin .eql) [.v 11, .c (.int .u32 0)] <|
    .jmp 0 false [.v 12]) (
    .subp [.bool] (
     .prim (.bin .gtr) [.v 1, .c (.int .i64 0)] <|
     .ite (.v 11) (
      .prim (.fld 4) [.v 0] <|
      .prim (.conv .u64) [.v 12] <|
      .prim (.conv .u64) [.v 1] <|
      .prim (.bin .lss) [.v 13, .v 14] <|
      .jmp 0 false [.v 15]) (
      .jmp 0 false [.c (.bool false)])) 1 <|
    .jmp 0 false [.v 11])))
theorem a_isa_May : treeOf cx 12 162 = some A_isa_May.erase := by kernel_rfl
theorem k_isa_May : FnOk cx 12 noC 162 F_isa_May.fn := pn_ok (t := A_isa_May) a_isa_May (fun _ => rfl) (ok_of [(173, F_isa_Uses.fn), (174, F_isa_register.fn), (174, F_isa_register.fn), (174, F_isa_register.fn)] (by kernel_rfl) (.cons k_isa_Uses (.cons k_isa_register (.cons k_isa_register (.cons k_isa_register .nil))))) (fun x => by kernel_rfl)

/-! 89: backstay/backstayref02.All -/
noncomputable def r02_All_L1 (x0 : List (List Ins)) (s : Int) : Option (Int ⊕ Unit ⊕ Bool) :=
  if decide (s < (List.length x0 : Int)) then
    (
      if decide ((3 : Int) < s) then
        some (true)
      else
        (getO x0 s).bind fun v5 =>
        (r02_Right v5).bind fun v6 =>
        some ((!v6)) : Option Bool).bind fun v4 =>
    if v4 then
      some (Sum.inr (Sum.inr (false)))
    else
      some (Sum.inl (w64 (s + (1 : Int))))
  else
    some (Sum.inr (Sum.inl ()))
noncomputable def r02_All (p0 : List (List Ins)) : Option Bool :=
  orExit (
    loopD (r02_All_L1 p0) (0 : Int) : Option (Unit ⊕ Bool)) fun v1 =>
  some ((decide ((0 : Int) < (List.length p0 : Int))))
noncomputable def F_r02_All : FnT := ⟨[.sl (.sl tIns)], [.bool], fun x => r02_All x⟩
noncomputable def A_r02_All : TA :=
 .sub1 [] (
  .loop [.int .i64] [.c (.int .i64 0)] (
   .prim .len [.v 0] <|
   .prim (.bin .lss) [.v 1, .v 2] <|
   .ite (.v 3) (
    .sub0 [.bool] (
     .prim (.bin .gtr) [.v 1, .c (.int .i64 3)] <|
     .ite (.v 4) (
      .jmp 0 false [.c (.bool true)]) (
      .prim .get [.v 0, .v 1] <|
      .call 133 F_r02_Right [.v 5] 1 <|
      .prim (.un .not) [.v 6] <|
      .jmp 0 false [.v 7])) 1 <|
    .ite (.v 4) (
     .jmp 2 false [.c (.bool false)]) (
     .prim (.bin .add) [.v 1, .c (.int .i64 1)] <|
     .jmp 0 true [.v 5])) (
    .jmp 1 false []))) 0 <|
 .prim .len [.v 0] <|
 .prim (.bin .gtr) [.v 1, .c (.int .i64 0)] <|
 .jmp 0 false [.v 2]
theorem a_r02_All : treeOf cx 12 89 = some A_r02_All.erase := by kernel_rfl
theorem k_r02_All : FnOk cx 12 noC 89 F_r02_All := fn_ok (t := A_r02_All) a_r02_All (fun _ => rfl) (ok_of [(133, F_r02_Right)] (by kernel_rfl) (.cons k_r02_Right .nil)) (fun x => by kernel_rfl)

/-! 110: backstay/backstayref03.Right -/
noncomputable def r03_Right (p0 : List Ins) (p1 : Core) : Option Bool :=
  (
    (r02_Right p0).bind fun v2 =>
    if v2 then
      if decide ((0 : Int) ≤ (Core.PC p1)) then
        some ((decide ((Core.PC p1) < (List.length p0 : Int))))
      else
        some (false)
    else
      some (false) : Option Bool).bind fun v2 =>
  some (v2)
noncomputable def F_r03_Right : FnT := ⟨[.sl tIns, tCore], [.bool], fun x => r03_Right x.1 x.2⟩
noncomputable def A_r03_Right : TA :=
 .sub0 [.bool] (
  .call 133 F_r02_Right [.v 0] 1 <|
  .ite (.v 2) (
   .prim (.fld 1) [.v 1] <|
   .prim (.bin .geq) [.v 3, .c (.int .i64 0)] <|
   .ite (.v 4) (
    .prim (.fld 1) [.v 1] <|
    .prim .len [.v 0] <|
    .prim (.bin .lss) [.v 5, .v 6] <|
    .jmp 0 false [.v 7]) (
    .jmp 0 false [.c (.bool false)])) (
   .jmp 0 false [.c (.bool false)])) 1 <|
 .jmp 0 false [.v 2]
theorem a_r03_Right : treeOf cx 12 110 = some A_r03_Right.erase := by kernel_rfl
theorem k_r03_Right : FnOk cx 12 noC 110 F_r03_Right := fn_ok (t := A_r03_Right) a_r03_Right (fun _ => rfl) (ok_of [(133, F_r02_Right)] (by kernel_rfl) (.cons k_r02_Right .nil)) (fun x => by kernel_rfl)

/-! 138: backstay/isa.Right -/
noncomputable def isa_Right_L1 (x0 : List Ins) (x7 : Int) (s : Int) : Option (Int ⊕ Unit ⊕ Int) :=
  if decide (s < x7) then
    (getO x0 s).bind fun v10 =>
    if !(isa_May v10 (List.length x0 : Int)) then
      some (Sum.inr (Sum.inr (s)))
    else
      some (Sum.inl (w64 (s + (1 : Int))))
  else
    some (Sum.inr (Sum.inl ()))
noncomputable def isa_Right (p0 : List Ins) : Option Bool :=
  if (decide ((List.length p0 : Int) < (1 : Int))) || (decide ((64 : Int) < (List.length p0 : Int))) then
    some (false)
  else
    (getO p0 (w64 ((List.length p0 : Int) - (1 : Int)))).bind fun v4 =>
    (
      if (decide ((Ins.Op v4) = (16 : Int))) || (decide ((Ins.Op v4) = (13 : Int))) then
        (
          (
            let v7 : Int := (List.length p0 : Int)
            orExit (
              loopD (isa_Right_L1 p0 v7) (0 : Int) : Option (Unit ⊕ Int)) fun v8 =>
            some ((-1 : Int)) : Option Int).bind fun v7 =>
          some ((decide ((0 : Int) ≤ v7))) : Option Bool).bind fun v7 =>
        some ((!v7))
      else
        some (false) : Option Bool).bind fun v7 =>
    some (v7)
noncomputable def F_isa_Right : FnT := ⟨[.sl tIns], [.bool], fun x => isa_Right x⟩
noncomputable def A_isa_Right : TA :=
 .subp [.bool] (
  .prim .len [.v 0] <|
  .prim (.bin .lss) [.v 1, .c (.int .i64 1)] <|
  .ite (.v 2) (
   .jmp 0 false [.c (.bool true)]) (
   .prim .len [.v 0] <|
   .prim (.bin .gtr) [.v 3, .c (.int .i64 64)] <|
   .jmp 0 false [.v 4])) 1 <|
 .ite (.v 1) (
  .jmp 0 false [.c (.bool false)]) (
  .prim .len [.v 0] <|
  .prim (.bin .sub) [.v 2, .c (.int .i64 1)] <|
  .prim .get [.v 0, .v 3] <|
  .prim (.fld 0) [.v 4] <|
  .subp [.bool] (
   .prim (.bin .eql) [.v 5, .c (.int .i64 16)] <|
   .ite (.v 6) (
    .jmp 0 false [.c (.bool true)]) (
    .prim (.bin .eql) [.v 5, .c (.int .i64 13)] <|
    .jmp 0 false [.v 7])) 1 <|
  .sub0 [.bool] (
   .ite (.v 6) (
    .sub0 [.bool] (
     .sub0 [.int .i64] (
      .prim .len [.v 0] <|
      .sub1 [] (
       .loop [.int .i64] [.c (.int .i64 0)] (
        .prim (.bin .lss) [.v 8, .v 7] <|
        .ite (.v 9) (
         .prim .get [.v 0, .v 8] <|
         .subp [.bool] (
          .prim .len [.v 0] <|
          .callp 162 F_isa_May [.v 10, .v 11] 1 <|
          .prim (.un .not) [.v 12] <|
          .jmp 0 false [.v 13]) 1 <|
         .ite (.v 11) (
          .jmp 2 false [.v 8]) (
          .prim (.bin .add) [.v 8, .c (.int .i64 1)] <|
          .jmp 0 true [.v 12])) (
         .jmp 1 false []))) 0 <|
      .jmp 0 false [.c (.int .i64 (-1))]) 1 <|
     .prim (.bin .geq) [.v 7, .c (.int .i64 0)] <|
     .jmp 0 false [.v 8]) 1 <|
    .prim (.un .not) [.v 7] <|
    .jmp 0 false [.v 8]) (
    .jmp 0 false [.c (.bool false)])) 1 <|
  .jmp 0 false [.v 7])
theorem a_isa_Right : treeOf cx 12 138 = some A_isa_Right.erase := by kernel_rfl
theorem k_isa_Right : FnOk cx 12 noC 138 F_isa_Right := fn_ok (t := A_isa_Right) a_isa_Right (fun _ => rfl) (ok_of [(162, F_isa_May.fn)] (by kernel_rfl) (.cons k_isa_May .nil)) (fun x => by kernel_rfl)

/-! 36: backstay/backstayref04.New -/
noncomputable def r04_New (p0 : List (List Ins)) (p1 : Int) : Option (Atom × Int) :=
  (
    (r02_All p0).bind fun v2 =>
    if !v2 then
      some (true)
    else
      if decide (p1 < (1 : Int)) then
        some (true)
      else
        some ((decide ((64 : Int) < p1))) : Option Bool).bind fun v2 =>
  if v2 then
    some (((Atom.mk ([] : List Int) ([] : List Core) ([] : List Told)), (1 : Int)))
  else
    (repO (0 : Int) 4 p1 p1).bind fun v3 =>
    let v4 : Int := (List.length p0 : Int)
    (repO (Core.mk ([(0 : Int), (0 : Int), (0 : Int), (0 : Int), (0 : Int), (0 : Int), (0 : Int), (0 : Int)] : List Int) (0 : Int) false) 48 v4 v4).bind fun v5 =>
    some ((Atom.mk v3 v5 ([] : List Told), (0 : Int)))
noncomputable def F_r04_New : FnT := ⟨[.sl (.sl tIns), .int .i64], [tAtom, .int .i64], fun x => r04_New x.1 x.2⟩
noncomputable def A_r04_New : TA :=
 .sub0 [.bool] (
  .call 89 F_r02_All [.v 0] 1 <|
  .prim (.un .not) [.v 2] <|
  .ite (.v 3) (
   .jmp 0 false [.c (.bool true)]) (
   .prim (.bin .lss) [.v 1, .c (.int .i64 1)] <|
   .ite (.v 4) (
    .jmp 0 false [.c (.bool true)]) (
    .prim (.bin .gtr) [.v 1, .c (.int .i64 64)] <|
    .jmp 0 false [.v 5]))) 1 <|
 .ite (.v 2) (
  .jmp 0 false [.c (.agg [.nil, .nil, .nil]), .c (.int .i64 1)]) (
  .primH (.rep (.int .u32 0) 4) (.sl (.int .u32)) [.v 1, .v 1] <|
  .prim .len [.v 0] <|
  .primH (.rep (.agg [(.agg [(.int .u32 0), (.int .u32 0), (.int .u32 0), (.int .u32 0), (.int .u32 0), (.int .u32 0), (.int .u32 0), (.int .u32 0)]), (.int .i64 0), (.bool false)]) 48) (.sl tCore) [.v 4, .v 4] <|
  .mkS tsAtom [.v 3, .v 5, .c .nil] <|
  .jmp 0 false [.v 6, .c (.int .i64 0)])
theorem a_r04_New : treeOf cx 12 36 = some A_r04_New.erase := by kernel_rfl
theorem k_r04_New : FnOk cx 12 noC 36 F_r04_New := fn_ok (t := A_r04_New) a_r04_New (fun _ => rfl) (ok_of [(89, F_r02_All)] (by kernel_rfl) (.cons k_r02_All .nil)) (fun x => by kernel_rfl)

/-! 62: backstay/backstayref04.Right -/
noncomputable def r04_Right_L1 (x0 : List (List Ins)) (x1 : Atom) (s : Int) : Option (Int ⊕ Unit ⊕ Bool) :=
  if decide (s < (List.length x0 : Int)) then
    (getO x0 s).bind fun v6 =>
    (getO (Atom.Cores x1) s).bind fun v8 =>
    (r03_Right v6 v8).bind fun v9 =>
    if !v9 then
      some (Sum.inr (Sum.inr (false)))
    else
      some (Sum.inl (w64 (s + (1 : Int))))
  else
    some (Sum.inr (Sum.inl ()))
noncomputable def r04_Right (p0 : List (List Ins)) (p1 : Atom) : Option Bool :=
  (
    (r02_All p0).bind fun v2 =>
    if !v2 then
      some (true)
    else
      if decide ((List.length (Atom.Mem p1) : Int) = (0 : Int)) then
        some (true)
      else
        if decide ((64 : Int) < (List.length (Atom.Mem p1) : Int)) then
          some (true)
        else
          some ((!decide ((List.length (Atom.Cores p1) : Int) = (List.length p0 : Int)))) : Option Bool).bind fun v2 =>
  if v2 then
    some (false)
  else
    orExit (
      loopD (r04_Right_L1 p0 p1) (0 : Int) : Option (Unit ⊕ Bool)) fun v3 =>
    some (true)
noncomputable def F_r04_Right : FnT := ⟨[.sl (.sl tIns), tAtom], [.bool], fun x => r04_Right x.1 x.2⟩
noncomputable def A_r04_Right : TA :=
 .sub0 [.bool] (
  .call 89 F_r02_All [.v 0] 1 <|
  .prim (.un .not) [.v 2] <|
  .ite (.v 3) (
   .jmp 0 false [.c (.bool true)]) (
   .prim (.fld 0) [.v 1] <|
   .prim .len [.v 4] <|
   .prim (.bin .eql) [.v 5, .c (.int .i64 0)] <|
   .ite (.v 6) (
    .jmp 0 false [.c (.bool true)]) (
    .prim (.fld 0) [.v 1] <|
    .prim .len [.v 7] <|
    .prim (.bin .gtr) [.v 8, .c (.int .i64 64)] <|
    .ite (.v 9) (
     .jmp 0 false [.c (.bool true)]) (
     .prim (.fld 1) [.v 1] <|
     .prim .len [.v 10] <|
     .prim .len [.v 0] <|
     .prim (.bin .neq) [.v 11, .v 12] <|
     .jmp 0 false [.v 13])))) 1 <|
 .ite (.v 2) (
  .jmp 0 false [.c (.bool false)]) (
  .sub1 [] (
   .loop [.int .i64] [.c (.int .i64 0)] (
    .prim .len [.v 0] <|
    .prim (.bin .lss) [.v 3, .v 4] <|
    .ite (.v 5) (
     .prim .get [.v 0, .v 3] <|
     .prim (.fld 1) [.v 1] <|
     .prim .get [.v 7, .v 3] <|
     .call 110 F_r03_Right [.v 6, .v 8] 1 <|
     .prim (.un .not) [.v 9] <|
     .ite (.v 10) (
      .jmp 2 false [.c (.bool false)]) (
      .prim (.bin .add) [.v 3, .c (.int .i64 1)] <|
      .jmp 0 true [.v 11])) (
     .jmp 1 false []))) 0 <|
  .jmp 0 false [.c (.bool true)])
theorem a_r04_Right : treeOf cx 12 62 = some A_r04_Right.erase := by kernel_rfl
theorem k_r04_Right : FnOk cx 12 noC 62 F_r04_Right := fn_ok (t := A_r04_Right) a_r04_Right (fun _ => rfl) (ok_of [(89, F_r02_All), (110, F_r03_Right)] (by kernel_rfl) (.cons k_r02_All (.cons k_r03_Right .nil))) (fun x => by kernel_rfl)

/-! 91: backstay/backstayref03.Wants -/
noncomputable def r03_Wants (p0 : List Ins) (p1 : Core) (p2 : Int) : Option Want :=
  (
    (r03_Right p0 p1).bind fun v3 =>
    if !v3 then
      some (true)
    else
      some ((Core.Halted p1)) : Option Bool).bind fun v3 =>
  if v3 then
    some ((Want.mk (5 : Int) (0 : Int) (0 : Int) (0 : Int)))
  else
    (getO p0 (Core.PC p1)).bind fun v5 =>
    let v8 : Want := bif !decide ((Ins.Op v5) = (16 : Int)) then (Want.mk (0 : Int) (0 : Int) (0 : Int) (0 : Int)) else (Want.mk (5 : Int) (0 : Int) (0 : Int) (0 : Int))
    (
      if (decide ((Ins.Op v5) = (9 : Int))) || ((decide ((Ins.Op v5) = (10 : Int))) || (decide ((Ins.Op v5) = (11 : Int)))) then
        (idxO (8 : Int) (Ins.B v5)).bind fun v14 =>
        (getO (Core.Regs p1) v14).bind fun v16 =>
        (r03_Place v16 p2).bind fun v17 =>
        some ((Want.setAt (Want.setKind v8 (w64 ((Ins.Op v5) - (8 : Int)))) v17))
      else
        some (v8) : Option Want).bind fun v10 =>
    (
      if (decide ((Ins.Op v5) = (10 : Int))) || (decide ((Ins.Op v5) = (15 : Int))) then
        (idxO (8 : Int) (Ins.A v5)).bind fun v13 =>
        (getO (Core.Regs p1) v13).bind fun v15 =>
        some ((Want.setVal v10 v15))
      else
        some (v10) : Option Want).bind fun v12 =>
    (
      if decide ((Ins.Op v5) = (11 : Int)) then
        (idxO (8 : Int) (Ins.C v5)).bind fun v16 =>
        (getO (Core.Regs p1) v16).bind fun v18 =>
        (idxO (8 : Int) (Ins.A v5)).bind fun v21 =>
        (getO (Core.Regs p1) v21).bind fun v23 =>
        some ((Want.setOld (Want.setVal v12 v18) v23))
      else
        some (v12) : Option Want).bind fun v15 =>
    some ((bif decide ((Ins.Op v5) = (15 : Int)) then Want.setKind v15 (4 : Int) else v15))
noncomputable def F_r03_Wants : FnT := ⟨[.sl tIns, tCore, .int .i64], [tWant], fun x => r03_Wants x.1 x.2.1 x.2.2⟩
noncomputable def A_r03_Wants : TA :=
 .sub0 [.bool] (
  .call 110 F_r03_Right [.v 0, .v 1] 1 <|
  .prim (.un .not) [.v 3] <|
  .ite (.v 4) (
   .jmp 0 false [.c (.bool true)]) (
   .prim (.fld 2) [.v 1] <|
   .jmp 0 false [.v 5])) 1 <|
 .ite (.v 3) (
  .jmp 0 false [.c (.agg [(.int .i64 5), (.int .i64 0), (.int .u32 0), (.int .u32 0)])]) (
  .prim (.fld 1) [.v 1] <|
  .prim .get [.v 0, .v 4] <|
  .prim (.fld 0) [.v 5] <|
  .prim (.bin .neq) [.v 6, .c (.int .i64 16)] <|
  .subp [tWant] (
   .ite (.v 7) (
    .jmp 0 false [.c (.agg [(.int .i64 0), (.int .i64 0), (.int .u32 0), (.int .u32 0)])]) (
    .jmp 0 false [.c (.agg [(.int .i64 5), (.int .i64 0), (.int .u32 0), (.int .u32 0)])])) 1 <|
  .subp [.bool] (
   .prim (.fld 0) [.v 5] <|
   .prim (.bin .eql) [.v 9, .c (.int .i64 9)] <|
   .ite (.v 10) (
    .jmp 0 false [.c (.bool true)]) (
    .prim (.fld 0) [.v 5] <|
    .prim (.bin .eql) [.v 11, .c (.int .i64 10)] <|
    .ite (.v 12) (
     .jmp 0 false [.c (.bool true)]) (
     .prim (.fld 0) [.v 5] <|
     .prim (.bin .eql) [.v 13, .c (.int .i64 11)] <|
     .jmp 0 false [.v 14]))) 1 <|
  .sub0 [tWant] (
   .ite (.v 9) (
    .prim (.fld 0) [.v 5] <|
    .prim (.bin .sub) [.v 10, .c (.int .i64 8)] <|
    .prim (.setf 0) [.v 8, .v 11] <|
    .prim (.fld 2) [.v 5] <|
    .prim (.idxn 8) [.v 13] <|
    .prim (.fld 0) [.v 1] <|
    .prim .get [.v 15, .v 14] <|
    .call 134 F_r03_Place [.v 16, .v 2] 1 <|
    .prim (.setf 1) [.v 12, .v 17] <|
    .jmp 0 false [.v 18]) (
    .jmp 0 false [.v 8])) 1 <|
  .subp [.bool] (
   .prim (.fld 0) [.v 5] <|
   .prim (.bin .eql) [.v 11, .c (.int .i64 10)] <|
   .ite (.v 12) (
    .jmp 0 false [.c (.bool true)]) (
    .prim (.fld 0) [.v 5] <|
    .prim (.bin .eql) [.v 13, .c (.int .i64 15)] <|
    .jmp 0 false [.v 14])) 1 <|
  .sub0 [tWant] (
   .ite (.v 11) (
    .prim (.fld 1) [.v 5] <|
    .prim (.idxn 8) [.v 12] <|
    .prim (.fld 0) [.v 1] <|
    .prim .get [.v 14, .v 13] <|
    .prim (.setf 2) [.v 10, .v 15] <|
    .jmp 0 false [.v 16]) (
    .jmp 0 false [.v 10])) 1 <|
  .prim (.fld 0) [.v 5] <|
  .prim (.bin .eql) [.v 13, .c (.int .i64 11)] <|
  .sub0 [tWant] (
   .ite (.v 14) (
    .prim (.fld 3) [.v 5] <|
    .prim (.idxn 8) [.v 15] <|
    .prim (.fld 0) [.v 1] <|
    .prim .get [.v 17, .v 16] <|
    .prim (.setf 2) [.v 12, .v 18] <|
    .prim (.fld 1) [.v 5] <|
    .prim (.idxn 8) [.v 20] <|
    .prim (.fld 0) [.v 1] <|
    .prim .get [.v 22, .v 21] <|
    .prim (.setf 3) [.v 19, .v 23] <|
    .jmp 0 false [.v 24]) (
    .jmp 0 false [.v 12])) 1 <|
  .prim (.fld 0) [.v 5] <|
  .prim (.bin .eql) [.v 16, .c (.int .i64 15)] <|
  .subp [tWant] (
   .ite (.v 17) (
    .prim (.setf 0) [.v 15, .c (.int .i64 4)] <|
    .jmp 0 false [.v 18]) (
    .jmp 0 false [.v 15])) 1 <|
  .jmp 0 false [.v 18])
theorem a_r03_Wants : treeOf cx 12 91 = some A_r03_Wants.erase := by kernel_rfl
theorem k_r03_Wants : FnOk cx 12 noC 91 F_r03_Wants := fn_ok (t := A_r03_Wants) a_r03_Wants (fun _ => rfl) (ok_of [(110, F_r03_Right), (134, F_r03_Place)] (by kernel_rfl) (.cons k_r03_Right (.cons k_r03_Place .nil))) (fun x => by kernel_rfl)

/-! 92: backstay/backstayref03.Done -/
noncomputable def r03_Done (p0 : List Ins) (p1 : Core) (p2 : Int) : Option Core :=
  (
    (r03_Right p0 p1).bind fun v3 =>
    if !v3 then
      some (true)
    else
      some ((Core.Halted p1)) : Option Bool).bind fun v3 =>
  if v3 then
    some (p1)
  else
    (getO p0 (Core.PC p1)).bind fun v5 =>
    if decide ((Ins.Op v5) = (16 : Int)) then
      some ((Core.setHalted p1 true))
    else
      (
        if decide ((Ins.Op v5) = (13 : Int)) then
          some (true)
        else
          if decide ((Ins.Op v5) = (14 : Int)) then
            (idxO (8 : Int) (Ins.A v5)).bind fun v13 =>
            (getO (Core.Regs p1) v13).bind fun v15 =>
            some ((decide (v15 = (0 : Int))))
          else
            some (false) : Option Bool).bind fun v8 =>
      if v8 then
        some ((Core.setPC p1 (w64 (Ins.K v5))))
      else
        let v11 : Core := Core.setPC p1 (w64 ((Core.PC p1) + (1 : Int)))
        (
          if decide ((Ins.Op v5) = (1 : Int)) then
            (idxO (8 : Int) (Ins.A v5)).bind fun v16 =>
            (setO (Core.Regs v11) v16 (Ins.K v5)).bind fun v18 =>
            some ((Core.setRegs v11 v18))
          else
            some (v11) : Option Core).bind fun v14 =>
        (
          if (decide ((2 : Int) ≤ (Ins.Op v5))) && (decide ((Ins.Op v5) ≤ (8 : Int))) then
            (idxO (8 : Int) (Ins.B v5)).bind fun v19 =>
            (getO (Core.Regs v14) v19).bind fun v21 =>
            (idxO (8 : Int) (Ins.C v5)).bind fun v23 =>
            (getO (Core.Regs v14) v23).bind fun v25 =>
            (r01_Do (Ins.Op v5) v21 v25).bind fun v26 =>
            (idxO (8 : Int) (Ins.A v5)).bind fun v28 =>
            (setO (Core.Regs v14) v28 v26.1).bind fun v30 =>
            some ((Core.setRegs v14 v30))
          else
            some (v14) : Option Core).bind fun v16 =>
        (
          if (decide ((Ins.Op v5) = (9 : Int))) || (decide ((Ins.Op v5) = (11 : Int))) then
            (idxO (8 : Int) (Ins.A v5)).bind fun v19 =>
            (setO (Core.Regs v16) v19 p2).bind fun v21 =>
            some ((Core.setRegs v16 v21))
          else
            some (v16) : Option Core).bind fun v18 =>
        some (v18)
noncomputable def F_r03_Done : FnT := ⟨[.sl tIns, tCore, .int .u32], [tCore], fun x => r03_Done x.1 x.2.1 x.2.2⟩
noncomputable def A_r03_Done : TA :=
 .sub0 [.bool] (
  .call 110 F_r03_Right [.v 0, .v 1] 1 <|
  .prim (.un .not) [.v 3] <|
  .ite (.v 4) (
   .jmp 0 false [.c (.bool true)]) (
   .prim (.fld 2) [.v 1] <|
   .jmp 0 false [.v 5])) 1 <|
 .ite (.v 3) (
  .jmp 0 false [.v 1]) (
  .prim (.fld 1) [.v 1] <|
  .prim .get [.v 0, .v 4] <|
  .prim (.fld 0) [.v 5] <|
  .prim (.bin .eql) [.v 6, .c (.int .i64 16)] <|
  .ite (.v 7) (
   .prim (.setf 2) [.v 1, .c (.bool true)] <|
   .jmp 0 false [.v 8]) (
   .sub0 [.bool] (
    .prim (.fld 0) [.v 5] <|
    .prim (.bin .eql) [.v 8, .c (.int .i64 13)] <|
    .ite (.v 9) (
     .jmp 0 false [.c (.bool true)]) (
     .prim (.fld 0) [.v 5] <|
     .prim (.bin .eql) [.v 10, .c (.int .i64 14)] <|
     .ite (.v 11) (
      .prim (.fld 1) [.v 5] <|
      .prim (.idxn 8) [.v 12] <|
      .prim (.fld 0) [.v 1] <|
      .prim .get [.v 14, .v 13] <|
      .prim (.bin .eql) [.v 15, .c (.int .u32 0)] <|
      .jmp 0 false [.v 16]) (
      .jmp 0 false [.c (.bool false)]))) 1 <|
   .ite (.v 8) (
    .prim (.fld 4) [.v 5] <|
    .prim (.conv .i64) [.v 9] <|
    .prim (.setf 1) [.v 1, .v 10] <|
    .jmp 0 false [.v 11]) (
    .prim (.fld 1) [.v 1] <|
    .prim (.bin .add) [.v 9, .c (.int .i64 1)] <|
    .prim (.setf 1) [.v 1, .v 10] <|
    .prim (.fld 0) [.v 5] <|
    .prim (.bin .eql) [.v 12, .c (.int .i64 1)] <|
    .sub0 [tCore] (
     .ite (.v 13) (
      .prim (.fld 1) [.v 5] <|
      .prim (.fld 4) [.v 5] <|
      .prim (.idxn 8) [.v 14] <|
      .prim (.fld 0) [.v 11] <|
      .prim .set [.v 17, .v 16, .v 15] <|
      .prim (.setf 0) [.v 11, .v 18] <|
      .jmp 0 false [.v 19]) (
      .jmp 0 false [.v 11])) 1 <|
    .subp [.bool] (
     .prim (.fld 0) [.v 5] <|
     .prim (.bin .geq) [.v 15, .c (.int .i64 2)] <|
     .ite (.v 16) (
      .prim (.fld 0) [.v 5] <|
      .prim (.bin .leq) [.v 17, .c (.int .i64 8)] <|
      .jmp 0 false [.v 18]) (
      .jmp 0 false [.c (.bool false)])) 1 <|
    .sub0 [tCore] (
     .ite (.v 15) (
      .prim (.fld 1) [.v 5] <|
      .prim (.fld 0) [.v 5] <|
      .prim (.fld 2) [.v 5] <|
      .prim (.idxn 8) [.v 18] <|
      .prim (.fld 0) [.v 14] <|
      .prim .get [.v 20, .v 19] <|
      .prim (.fld 3) [.v 5] <|
      .prim (.idxn 8) [.v 22] <|
      .prim (.fld 0) [.v 14] <|
      .prim .get [.v 24, .v 23] <|
      .call 135 F_r01_Do [.v 17, .v 21, .v 25] 2 <|
      .prim (.idxn 8) [.v 16] <|
      .prim (.fld 0) [.v 14] <|
      .prim .set [.v 29, .v 28, .v 26] <|
      .prim (.setf 0) [.v 14, .v 30] <|
      .jmp 0 false [.v 31]) (
      .jmp 0 false [.v 14])) 1 <|
    .subp [.bool] (
     .prim (.fld 0) [.v 5] <|
     .prim (.bin .eql) [.v 17, .c (.int .i64 9)] <|
     .ite (.v 18) (
      .jmp 0 false [.c (.bool true)]) (
      .prim (.fld 0) [.v 5] <|
      .prim (.bin .eql) [.v 19, .c (.int .i64 11)] <|
      .jmp 0 false [.v 20])) 1 <|
    .sub0 [tCore] (
     .ite (.v 17) (
      .prim (.fld 1) [.v 5] <|
      .prim (.idxn 8) [.v 18] <|
      .prim (.fld 0) [.v 16] <|
      .prim .set [.v 20, .v 19, .v 2] <|
      .prim (.setf 0) [.v 16, .v 21] <|
      .jmp 0 false [.v 22]) (
      .jmp 0 false [.v 16])) 1 <|
    .jmp 0 false [.v 18])))
theorem a_r03_Done : treeOf cx 12 92 = some A_r03_Done.erase := by kernel_rfl
theorem k_r03_Done : FnOk cx 12 noC 92 F_r03_Done := fn_ok (t := A_r03_Done) a_r03_Done (fun _ => rfl) (ok_of [(110, F_r03_Right), (135, F_r01_Do)] (by kernel_rfl) (.cons k_r03_Right (.cons k_r01_Do .nil))) (fun x => by kernel_rfl)

/-! 94: backstay/core.Right -/
noncomputable def core_Right (p0 : List Ins) (p1 : Core) : Option Bool :=
  (
    (isa_Right p0).bind fun v2 =>
    if v2 then
      if decide ((0 : Int) ≤ (Core.PC p1)) then
        some ((decide ((Core.PC p1) < (List.length p0 : Int))))
      else
        some (false)
    else
      some (false) : Option Bool).bind fun v2 =>
  some (v2)
noncomputable def F_core_Right : FnT := ⟨[.sl tIns, tCore], [.bool], fun x => core_Right x.1 x.2⟩
noncomputable def A_core_Right : TA :=
 .sub0 [.bool] (
  .call 138 F_isa_Right [.v 0] 1 <|
  .ite (.v 2) (
   .prim (.fld 1) [.v 1] <|
   .prim (.bin .geq) [.v 3, .c (.int .i64 0)] <|
   .ite (.v 4) (
    .prim (.fld 1) [.v 1] <|
    .prim .len [.v 0] <|
    .prim (.bin .lss) [.v 5, .v 6] <|
    .jmp 0 false [.v 7]) (
    .jmp 0 false [.c (.bool false)])) (
   .jmp 0 false [.c (.bool false)])) 1 <|
 .jmp 0 false [.v 2]
theorem a_core_Right : treeOf cx 12 94 = some A_core_Right.erase := by kernel_rfl
theorem k_core_Right : FnOk cx 12 noC 94 F_core_Right := fn_ok (t := A_core_Right) a_core_Right (fun _ => rfl) (ok_of [(138, F_isa_Right)] (by kernel_rfl) (.cons k_isa_Right .nil)) (fun x => by kernel_rfl)

/-! 137: backstay/isa.All$1 -/
noncomputable def isa_All_1 (p0 : List Ins) : Option Bool :=
  (isa_Right p0).bind fun v1 =>
  some ((!v1))
noncomputable def F_isa_All_1 : FnT := ⟨[.sl tIns], [.bool], fun x => isa_All_1 x⟩
noncomputable def A_isa_All_1 : TA :=
 .call 138 F_isa_Right [.v 0] 1 <|
 .prim (.un .not) [.v 1] <|
 .jmp 0 false [.v 2]
theorem a_isa_All_1 : treeOf cx 12 137 = some A_isa_All_1.erase := by kernel_rfl
theorem k_isa_All_1 : FnOk cx 12 noC 137 F_isa_All_1 := fn_ok (t := A_isa_All_1) a_isa_All_1 (fun _ => rfl) (ok_of [(138, F_isa_Right)] (by kernel_rfl) (.cons k_isa_Right .nil)) (fun x => by kernel_rfl)

/-! 38: backstay/backstayref04.Step -/
noncomputable def r04_Step (p0 : List (List Ins)) (p1 : Atom) (p2 : Int) : Option Atom :=
  (getO p0 p2).bind fun v3 =>
  (getO (Atom.Cores p1) p2).bind fun v5 =>
  (r03_Wants v3 v5 (List.length (Atom.Mem p1) : Int)).bind fun v8 =>
  (r04_Act (Atom.Mem p1) v8).bind fun v10 =>
  let v12 : Atom := Atom.setMem p1 v10.1
  (
    if decide ((Want.Kind v8) = (4 : Int)) then
      (appO 16 ([] : List Told) (Atom.Outs v12)).bind fun v16 =>
      (appO 16 v16 ([Told.mk p2 (Want.Val v8)] : List Told)).bind fun v20 =>
      some ((Atom.Mem v12, Atom.Cores v12, v20))
    else
      some ((Atom.Mem v12, Atom.Cores v12, Atom.Outs v12)) : Option ((List Int) × (List Core) × (List Told))).bind fun v15 =>
  (appO 48 ([] : List Core) v15.2.1).bind fun v18 =>
  (getO p0 p2).bind fun v19 =>
  (idxO (List.length v18 : Int) p2).bind fun v20 =>
  (getO v18 v20).bind fun v21 =>
  (r03_Done v19 v21 v10.2).bind fun v22 =>
  (idxO (List.length v18 : Int) p2).bind fun v23 =>
  (setO v18 v23 v22).bind fun v24 =>
  some ((Atom.mk v15.1 v24 v15.2.2))
noncomputable def F_r04_Step : FnT := ⟨[.sl (.sl tIns), tAtom, .int .i64], [tAtom], fun x => r04_Step x.1 x.2.1 x.2.2⟩
noncomputable def A_r04_Step : TA :=
 .prim .get [.v 0, .v 2] <|
 .prim (.fld 1) [.v 1] <|
 .prim .get [.v 4, .v 2] <|
 .prim (.fld 0) [.v 1] <|
 .prim .len [.v 6] <|
 .call 91 F_r03_Wants [.v 3, .v 5, .v 7] 1 <|
 .prim (.fld 0) [.v 1] <|
 .call 59 F_r04_Act [.v 9, .v 8] 2 <|
 .prim (.setf 0) [.v 1, .v 10] <|
 .prim (.fld 0) [.v 8] <|
 .prim (.bin .eql) [.v 13, .c (.int .i64 4)] <|
 .sub0 [.sl (.int .u32), .sl tCore, .sl tTold] (
  .ite (.v 14) (
   .prim (.fld 2) [.v 12] <|
   .primH (.app 16) (.sl tTold) [.c (.sl []), .v 15] <|
   .prim (.fld 2) [.v 8] <|
   .mkS tsTold [.v 2, .v 17] <|
   .mkL tTold [.v 18] <|
   .prim (.app 16) [.v 16, .v 19] <|
   .prim (.fld 0) [.v 12] <|
   .prim (.fld 1) [.v 12] <|
   .prim (.fld 2) [.v 12] <|
   .jmp 0 false [.v 21, .v 22, .v 20]) (
   .prim (.fld 0) [.v 12] <|
   .prim (.fld 1) [.v 12] <|
   .prim (.fld 2) [.v 12] <|
   .jmp 0 false [.v 15, .v 16, .v 17])) 3 <|
 .primH (.app 48) (.sl tCore) [.c (.sl []), .v 16] <|
 .prim .get [.v 0, .v 2] <|
 .prim .idx [.v 18, .v 2] <|
 .prim .get [.v 18, .v 20] <|
 .call 92 F_r03_Done [.v 19, .v 21, .v 11] 1 <|
 .prim .idx [.v 18, .v 2] <|
 .prim .set [.v 18, .v 23, .v 22] <|
 .mkS tsAtom [.v 15, .v 24, .v 17] <|
 .jmp 0 false [.v 25]
theorem a_r04_Step : treeOf cx 12 38 = some A_r04_Step.erase := by kernel_rfl
theorem k_r04_Step : FnOk cx 12 noC 38 F_r04_Step := fn_ok (t := A_r04_Step) a_r04_Step (fun _ => rfl) (ok_of [(91, F_r03_Wants), (59, F_r04_Act), (92, F_r03_Done)] (by kernel_rfl) (.cons k_r03_Wants (.cons k_r04_Act (.cons k_r03_Done .nil)))) (fun x => by kernel_rfl)

/-! 57: backstay/core.Wants -/
noncomputable def core_Wants (p0 : List Ins) (p1 : Core) (p2 : Int) : Option Want :=
  (
    (core_Right p0 p1).bind fun v3 =>
    if !v3 then
      some (true)
    else
      if Core.Halted p1 then
        some (true)
      else
        (getO p0 (Core.PC p1)).bind fun v7 =>
        some ((decide ((Ins.Op v7) = (16 : Int)))) : Option Bool).bind fun v3 =>
  if v3 then
    some ((Want.mk (5 : Int) (0 : Int) (0 : Int) (0 : Int)))
  else
    (getO p0 (Core.PC p1)).bind fun v5 =>
    (idxO (8 : Int) (Ins.A v5)).bind fun v7 =>
    (getO (Core.Regs p1) v7).bind fun v9 =>
    (idxO (8 : Int) (Ins.B v5)).bind fun v11 =>
    (getO (Core.Regs p1) v11).bind fun v13 =>
    (word_Place v13 p2).bind fun v14 =>
    if decide ((Ins.Op v5) = (9 : Int)) then
      some ((Want.mk (1 : Int) v14 (0 : Int) (0 : Int)))
    else
      if decide ((Ins.Op v5) = (10 : Int)) then
        some ((Want.mk (2 : Int) v14 v9 (0 : Int)))
      else
        if decide ((Ins.Op v5) = (11 : Int)) then
          (idxO (8 : Int) (Ins.C v5)).bind fun v20 =>
          (getO (Core.Regs p1) v20).bind fun v22 =>
          some ((Want.mk (3 : Int) v14 v22 v9))
        else
          if decide ((Ins.Op v5) = (15 : Int)) then
            some ((Want.mk (4 : Int) (0 : Int) v9 (0 : Int)))
          else
            some ((Want.mk (0 : Int) (0 : Int) (0 : Int) (0 : Int)))
noncomputable def F_core_Wants : FnT := ⟨[.sl tIns, tCore, .int .i64], [tWant], fun x => core_Wants x.1 x.2.1 x.2.2⟩
noncomputable def A_core_Wants : TA :=
 .sub0 [.bool] (
  .call 94 F_core_Right [.v 0, .v 1] 1 <|
  .prim (.un .not) [.v 3] <|
  .ite (.v 4) (
   .jmp 0 false [.c (.bool true)]) (
   .prim (.fld 2) [.v 1] <|
   .ite (.v 5) (
    .jmp 0 false [.c (.bool true)]) (
    .prim (.fld 1) [.v 1] <|
    .prim .get [.v 0, .v 6] <|
    .prim (.fld 0) [.v 7] <|
    .prim (.bin .eql) [.v 8, .c (.int .i64 16)] <|
    .jmp 0 false [.v 9]))) 1 <|
 .ite (.v 3) (
  .jmp 0 false [.c (.agg [(.int .i64 5), (.int .i64 0), (.int .u32 0), (.int .u32 0)])]) (
  .prim (.fld 1) [.v 1] <|
  .prim .get [.v 0, .v 4] <|
  .prim (.fld 1) [.v 5] <|
  .prim (.idxn 8) [.v 6] <|
  .prim (.fld 0) [.v 1] <|
  .prim .get [.v 8, .v 7] <|
  .prim (.fld 2) [.v 5] <|
  .prim (.idxn 8) [.v 10] <|
  .prim (.fld 0) [.v 1] <|
  .prim .get [.v 12, .v 11] <|
  .call 106 F_word_Place [.v 13, .v 2] 1 <|
  .prim (.fld 0) [.v 5] <|
  .prim (.bin .eql) [.v 15, .c (.int .i64 9)] <|
  .ite (.v 16) (
   .mkS tsWant [.c (.int .i64 1), .v 14, .c (.int .u32 0), .c (.int .u32 0)] <|
   .jmp 0 false [.v 17]) (
   .prim (.bin .eql) [.v 15, .c (.int .i64 10)] <|
   .ite (.v 17) (
    .mkS tsWant [.c (.int .i64 2), .v 14, .v 9, .c (.int .u32 0)] <|
    .jmp 0 false [.v 18]) (
    .prim (.bin .eql) [.v 15, .c (.int .i64 11)] <|
    .ite (.v 18) (
     .prim (.fld 3) [.v 5] <|
     .prim (.idxn 8) [.v 19] <|
     .prim (.fld 0) [.v 1] <|
     .prim .get [.v 21, .v 20] <|
     .mkS tsWant [.c (.int .i64 3), .v 14, .v 22, .v 9] <|
     .jmp 0 false [.v 23]) (
     .prim (.bin .eql) [.v 15, .c (.int .i64 15)] <|
     .ite (.v 19) (
      .mkS tsWant [.c (.int .i64 4), .c (.int .i64 0), .v 9, .c (.int .u32 0)] <|
      .jmp 0 false [.v 20]) (
      .jmp 0 false [.c (.agg [(.int .i64 0), (.int .i64 0), (.int .u32 0), (.int .u32 0)])])))))
theorem a_core_Wants : treeOf cx 12 57 = some A_core_Wants.erase := by kernel_rfl
theorem k_core_Wants : FnOk cx 12 noC 57 F_core_Wants := fn_ok (t := A_core_Wants) a_core_Wants (fun _ => rfl) (ok_of [(94, F_core_Right), (106, F_word_Place)] (by kernel_rfl) (.cons k_core_Right (.cons k_word_Place .nil))) (fun x => by kernel_rfl)

/-! 93: backstay/isa.All -/
noncomputable def isa_All_L1 (x0 : List (List Ins)) (x2 : Int) (s : Int) : Option (Int ⊕ Unit ⊕ Int) :=
  if decide (s < x2) then
    (getO x0 s).bind fun v5 =>
    (isa_All_1 v5).bind fun v6 =>
    if v6 then
      some (Sum.inr (Sum.inr (s)))
    else
      some (Sum.inl (w64 (s + (1 : Int))))
  else
    some (Sum.inr (Sum.inl ()))
noncomputable def isa_All (p0 : List (List Ins)) : Option Bool :=
  (
    if (decide ((1 : Int) ≤ (List.length p0 : Int))) && (decide ((List.length p0 : Int) ≤ (4 : Int))) then
      (
        (
          let v2 : Int := (List.length p0 : Int)
          orExit (
            loopD (isa_All_L1 p0 v2) (0 : Int) : Option (Unit ⊕ Int)) fun v3 =>
          some ((-1 : Int)) : Option Int).bind fun v2 =>
        some ((decide ((0 : Int) ≤ v2))) : Option Bool).bind fun v2 =>
      some ((!v2))
    else
      some (false) : Option Bool).bind fun v2 =>
  some (v2)
noncomputable def F_isa_All : FnT := ⟨[.sl (.sl tIns)], [.bool], fun x => isa_All x⟩
noncomputable def A_isa_All : TA :=
 .subp [.bool] (
  .prim .len [.v 0] <|
  .prim (.bin .geq) [.v 1, .c (.int .i64 1)] <|
  .ite (.v 2) (
   .prim .len [.v 0] <|
   .prim (.bin .leq) [.v 3, .c (.int .i64 4)] <|
   .jmp 0 false [.v 4]) (
   .jmp 0 false [.c (.bool false)])) 1 <|
 .sub0 [.bool] (
  .ite (.v 1) (
   .sub0 [.bool] (
    .sub0 [.int .i64] (
     .prim .len [.v 0] <|
     .sub1 [] (
      .loop [.int .i64] [.c (.int .i64 0)] (
       .prim (.bin .lss) [.v 3, .v 2] <|
       .ite (.v 4) (
        .prim .get [.v 0, .v 3] <|
        .call 137 F_isa_All_1 [.v 5] 1 <|
        .ite (.v 6) (
         .jmp 2 false [.v 3]) (
         .prim (.bin .add) [.v 3, .c (.int .i64 1)] <|
         .jmp 0 true [.v 7])) (
        .jmp 1 false []))) 0 <|
     .jmp 0 false [.c (.int .i64 (-1))]) 1 <|
    .prim (.bin .geq) [.v 2, .c (.int .i64 0)] <|
    .jmp 0 false [.v 3]) 1 <|
   .prim (.un .not) [.v 2] <|
   .jmp 0 false [.v 3]) (
   .jmp 0 false [.c (.bool false)])) 1 <|
 .jmp 0 false [.v 2]
theorem a_isa_All : treeOf cx 12 93 = some A_isa_All.erase := by kernel_rfl
theorem k_isa_All : FnOk cx 12 noC 93 F_isa_All := fn_ok (t := A_isa_All) a_isa_All (fun _ => rfl) (ok_of [(137, F_isa_All_1)] (by kernel_rfl) (.cons k_isa_All_1 .nil)) (fun x => by kernel_rfl)

/-! 132: backstay/core.Done -/
noncomputable def core_Done (p0 : List Ins) (p1 : Core) (p2 : Int) : Option Core :=
  (
    (core_Right p0 p1).bind fun v3 =>
    if !v3 then
      some (true)
    else
      some ((Core.Halted p1)) : Option Bool).bind fun v3 =>
  if v3 then
    some (p1)
  else
    (getO p0 (Core.PC p1)).bind fun v5 =>
    let v7 : Int := w64 ((Core.PC p1) + (1 : Int))
    (
      if decide ((Ins.Op v5) = (1 : Int)) then
        (idxO (8 : Int) (Ins.A v5)).bind fun v12 =>
        (setO (Core.Regs p1) v12 (Ins.K v5)).bind fun v14 =>
        some ((v7, Core.setRegs p1 v14))
      else
        let v10 : Bool := decide ((Ins.Op v5) = (9 : Int))
        (
          if bif v10 then v10 else decide ((Ins.Op v5) = (11 : Int)) then
            (idxO (8 : Int) (Ins.A v5)).bind fun v13 =>
            (setO (Core.Regs p1) v13 p2).bind fun v15 =>
            some ((v7, Core.setRegs p1 v15))
          else
            (
              if decide ((Ins.Op v5) = (13 : Int)) then
                some ((w64 (Ins.K v5), p1))
              else
                (
                  if decide ((Ins.Op v5) = (14 : Int)) then
                    (idxO (8 : Int) (Ins.A v5)).bind fun v15 =>
                    (getO (Core.Regs p1) v15).bind fun v17 =>
                    some ((bif decide (v17 = (0 : Int)) then w64 (Ins.K v5) else v7, p1))
                  else
                    (
                      if decide ((Ins.Op v5) = (16 : Int)) then
                        some ((Core.PC p1, Core.setHalted p1 true))
                      else
                        (idxO (8 : Int) (Ins.B v5)).bind fun v17 =>
                        (getO (Core.Regs p1) v17).bind fun v19 =>
                        (idxO (8 : Int) (Ins.C v5)).bind fun v21 =>
                        (getO (Core.Regs p1) v21).bind fun v23 =>
                        let v24 : (Int × Bool) := word_Do (Ins.Op v5) v19 v23
                        (
                          if v24.2 then
                            (idxO (8 : Int) (Ins.A v5)).bind fun v27 =>
                            (setO (Core.Regs p1) v27 v24.1).bind fun v29 =>
                            some ((Core.setRegs p1 v29))
                          else
                            some (p1) : Option Core).bind fun v26 =>
                        some ((v7, v26)) : Option (Int × Core)).bind fun v15 =>
                    some ((v15.1, v15.2)) : Option (Int × Core)).bind fun v14 =>
                some ((v14.1, v14.2)) : Option (Int × Core)).bind fun v13 =>
            some ((v13.1, v13.2)) : Option (Int × Core)).bind fun v12 =>
        some ((v12.1, v12.2)) : Option (Int × Core)).bind fun v10 =>
    some ((Core.setPC v10.2 v10.1))
noncomputable def F_core_Done : FnT := ⟨[.sl tIns, tCore, .int .u32], [tCore], fun x => core_Done x.1 x.2.1 x.2.2⟩
noncomputable def A_core_Done : TA :=
 .sub0 [.bool] (
  .call 94 F_core_Right [.v 0, .v 1] 1 <|
  .prim (.un .not) [.v 3] <|
  .ite (.v 4) (
   .jmp 0 false [.c (.bool true)]) (
   .prim (.fld 2) [.v 1] <|
   .jmp 0 false [.v 5])) 1 <|
 .ite (.v 3) (
  .jmp 0 false [.v 1]) (
  .prim (.fld 1) [.v 1] <|
  .prim .get [.v 0, .v 4] <|
  .prim (.fld 1) [.v 1] <|
  .prim (.bin .add) [.v 6, .c (.int .i64 1)] <|
  .prim (.fld 0) [.v 5] <|
  .prim (.bin .eql) [.v 8, .c (.int .i64 1)] <|
  .sub0 [.int .i64, tCore] (
   .ite (.v 9) (
    .prim (.fld 1) [.v 5] <|
    .prim (.fld 4) [.v 5] <|
    .prim (.idxn 8) [.v 10] <|
    .prim (.fld 0) [.v 1] <|
    .prim .set [.v 13, .v 12, .v 11] <|
    .prim (.setf 0) [.v 1, .v 14] <|
    .jmp 0 false [.v 7, .v 15]) (
    .prim (.bin .eql) [.v 8, .c (.int .i64 9)] <|
    .subp [.bool] (
     .ite (.v 10) (
      .jmp 0 false [.v 10]) (
      .prim (.bin .eql) [.v 8, .c (.int .i64 11)] <|
      .jmp 0 false [.v 11])) 1 <|
    .sub0 [.int .i64, tCore] (
     .ite (.v 11) (
      .prim (.fld 1) [.v 5] <|
      .prim (.idxn 8) [.v 12] <|
      .prim (.fld 0) [.v 1] <|
      .prim .set [.v 14, .v 13, .v 2] <|
      .prim (.setf 0) [.v 1, .v 15] <|
      .jmp 0 false [.v 7, .v 16]) (
      .prim (.bin .eql) [.v 8, .c (.int .i64 13)] <|
      .sub0 [.int .i64, tCore] (
       .ite (.v 12) (
        .prim (.fld 4) [.v 5] <|
        .prim (.conv .i64) [.v 13] <|
        .jmp 0 false [.v 14, .v 1]) (
        .prim (.bin .eql) [.v 8, .c (.int .i64 14)] <|
        .sub0 [.int .i64, tCore] (
         .ite (.v 13) (
          .prim (.fld 1) [.v 5] <|
          .prim (.idxn 8) [.v 14] <|
          .prim (.fld 0) [.v 1] <|
          .prim .get [.v 16, .v 15] <|
          .prim (.bin .eql) [.v 17, .c (.int .u32 0)] <|
          .subp [.int .i64] (
           .ite (.v 18) (
            .prim (.fld 4) [.v 5] <|
            .prim (.conv .i64) [.v 19] <|
            .jmp 0 false [.v 20]) (
            .jmp 0 false [.v 7])) 1 <|
          .jmp 0 false [.v 19, .v 1]) (
          .prim (.bin .eql) [.v 8, .c (.int .i64 16)] <|
          .sub0 [.int .i64, tCore] (
           .ite (.v 14) (
            .prim (.fld 1) [.v 1] <|
            .prim (.setf 2) [.v 1, .c (.bool true)] <|
            .jmp 0 false [.v 15, .v 16]) (
            .prim (.fld 0) [.v 5] <|
            .prim (.fld 2) [.v 5] <|
            .prim (.idxn 8) [.v 16] <|
            .prim (.fld 0) [.v 1] <|
            .prim .get [.v 18, .v 17] <|
            .prim (.fld 3) [.v 5] <|
            .prim (.idxn 8) [.v 20] <|
            .prim (.fld 0) [.v 1] <|
            .prim .get [.v 22, .v 21] <|
            .callp 156 F_word_Do [.v 15, .v 19, .v 23] 2 <|
            .sub0 [tCore] (
             .ite (.v 25) (
              .prim (.fld 1) [.v 5] <|
              .prim (.idxn 8) [.v 26] <|
              .prim (.fld 0) [.v 1] <|
              .prim .set [.v 28, .v 27, .v 24] <|
              .prim (.setf 0) [.v 1, .v 29] <|
              .jmp 0 false [.v 30]) (
              .jmp 0 false [.v 1])) 1 <|
            .jmp 0 false [.v 7, .v 26])) 2 <|
          .jmp 0 false [.v 15, .v 16])) 2 <|
        .jmp 0 false [.v 14, .v 15])) 2 <|
      .jmp 0 false [.v 13, .v 14])) 2 <|
    .jmp 0 false [.v 12, .v 13])) 2 <|
  .prim (.setf 1) [.v 11, .v 10] <|
  .jmp 0 false [.v 12])
theorem a_core_Done : treeOf cx 12 132 = some A_core_Done.erase := by kernel_rfl
theorem k_core_Done : FnOk cx 12 noC 132 F_core_Done := fn_ok (t := A_core_Done) a_core_Done (fun _ => rfl) (ok_of [(94, F_core_Right), (156, F_word_Do.fn)] (by kernel_rfl) (.cons k_core_Right (.cons k_word_Do .nil))) (fun x => by kernel_rfl)

/-! 35: backstay/atom.Run -/
noncomputable def atom_Run_L1 (x0 : List (List Ins)) (x2 : List Int) (x7 : Int) (s : (Int × (List Int) × (List Core) × (List Told))) : Option ((Int × (List Int) × (List Core) × (List Told)) ⊕ ((List Int) × (List Core) × (List Told))) :=
  if decide (s.1 < x7) then
    (getO x2 s.1).bind fun v13 =>
    (
      if (decide ((0 : Int) ≤ v13)) && (decide (v13 < (List.length s.2.2.1 : Int))) then
        (
          (getO x0 v13).bind fun v15 =>
          (idxO (List.length s.2.2.1 : Int) v13).bind fun v16 =>
          (getO s.2.2.1 v16).bind fun v17 =>
          (core_Wants v15 v17 (List.length s.2.1 : Int)).bind fun v19 =>
          (
            if decide ((Want.Kind v19) = (4 : Int)) then
              (appO 16 s.2.2.2 ([Told.mk v13 (Want.Val v19)] : List Told)).bind fun v25 =>
              some (v25)
            else
              some (s.2.2.2) : Option (List Told)).bind fun v22 =>
          (getO x0 v13).bind fun v23 =>
          (idxO (List.length s.2.2.1 : Int) v13).bind fun v24 =>
          (getO s.2.2.1 v24).bind fun v25 =>
          (
            if (decide ((Want.Kind v19) < (1 : Int))) || ((decide ((3 : Int) < (Want.Kind v19))) || ((decide ((Want.At v19) < (0 : Int))) || (decide ((List.length s.2.1 : Int) ≤ (Want.At v19))))) then
              some (((0 : Int), s.2.1))
            else
              (idxO (List.length s.2.1 : Int) (Want.At v19)).bind fun v28 =>
              (getO s.2.1 v28).bind fun v29 =>
              (
                if (decide ((Want.Kind v19) = (2 : Int))) || ((decide ((Want.Kind v19) = (3 : Int))) && (decide (v29 = (Want.Old v19)))) then
                  (idxO (List.length s.2.1 : Int) (Want.At v19)).bind fun v33 =>
                  (setO s.2.1 v33 (Want.Val v19)).bind fun v34 =>
                  some (v34)
                else
                  some (s.2.1) : Option (List Int)).bind fun v31 =>
              some ((v29, v31)) : Option (Int × (List Int))).bind fun v26 =>
          (core_Done v23 v25 v26.1).bind fun v28 =>
          (idxO (List.length s.2.2.1 : Int) v13).bind fun v29 =>
          (setO s.2.2.1 v29 v28).bind fun v30 =>
          some ((v26.2, v30, v22)) : Option ((List Int) × (List Core) × (List Told))).bind fun v15 =>
        some ((v15.1, v15.2.1, v15.2.2))
      else
        some ((s.2.1, s.2.2.1, s.2.2.2)) : Option ((List Int) × (List Core) × (List Told))).bind fun v15 =>
    some (Sum.inl (w64 (s.1 + (1 : Int)), v15.1, v15.2.1, v15.2.2))
  else
    some (Sum.inr ((s.2.1, s.2.2.1, s.2.2.2)))
noncomputable def atom_Run (p0 : List (List Ins)) (p1 : Int) (p2 : List Int) : Option (Atom × Int) :=
  (
    (
      (isa_All p0).bind fun v3 =>
      if !v3 then
        some (true)
      else
        if decide (p1 < (1 : Int)) then
          some (true)
        else
          some ((decide ((64 : Int) < p1))) : Option Bool).bind fun v3 =>
    if v3 then
      some (((1 : Int), ([] : List Int), ([] : List Core)))
    else
      (repO (0 : Int) 4 p1 p1).bind fun v4 =>
      let v5 : Int := (List.length p0 : Int)
      (repO (Core.mk ([(0 : Int), (0 : Int), (0 : Int), (0 : Int), (0 : Int), (0 : Int), (0 : Int), (0 : Int)] : List Int) (0 : Int) false) 48 v5 v5).bind fun v6 =>
      some (((0 : Int), v4, v6)) : Option (Int × (List Int) × (List Core))).bind fun v3 =>
  if !decide (v3.1 = (0 : Int)) then
    some ((Atom.mk v3.2.1 v3.2.2 ([] : List Told), v3.1))
  else
    let v7 : Int := (List.length p2 : Int)
    (
      loopD (atom_Run_L1 p0 p2 v7) ((0 : Int), v3.2.1, v3.2.2, ([] : List Told)) : Option ((List Int) × (List Core) × (List Told))).bind fun v8 =>
    some ((Atom.mk v8.1 v8.2.1 v8.2.2, (0 : Int)))
noncomputable def F_atom_Run : FnT := ⟨[.sl (.sl tIns), .int .i64, .sl (.int .i64)], [tAtom, .int .i64], fun x => atom_Run x.1 x.2.1 x.2.2⟩
noncomputable def A_atom_Run : TA :=
 .sub0 [.int .i64, .sl (.int .u32), .sl tCore] (
  .sub0 [.bool] (
   .call 93 F_isa_All [.v 0] 1 <|
   .prim (.un .not) [.v 3] <|
   .ite (.v 4) (
    .jmp 0 false [.c (.bool true)]) (
    .prim (.bin .lss) [.v 1, .c (.int .i64 1)] <|
    .ite (.v 5) (
     .jmp 0 false [.c (.bool true)]) (
     .prim (.bin .gtr) [.v 1, .c (.int .i64 64)] <|
     .jmp 0 false [.v 6]))) 1 <|
  .ite (.v 3) (
   .jmp 0 false [.c (.int .i64 1), .c .nil, .c .nil]) (
   .primH (.rep (.int .u32 0) 4) (.sl (.int .u32)) [.v 1, .v 1] <|
   .prim .len [.v 0] <|
   .primH (.rep (.agg [(.agg [(.int .u32 0), (.int .u32 0), (.int .u32 0), (.int .u32 0), (.int .u32 0), (.int .u32 0), (.int .u32 0), (.int .u32 0)]), (.int .i64 0), (.bool false)]) 48) (.sl tCore) [.v 5, .v 5] <|
   .jmp 0 false [.c (.int .i64 0), .v 4, .v 6])) 3 <|
 .prim (.bin .neq) [.v 3, .c (.int .i64 0)] <|
 .ite (.v 6) (
  .mkS tsAtom [.v 4, .v 5, .c .nil] <|
  .jmp 0 false [.v 7, .v 3]) (
  .prim .len [.v 2] <|
  .sub0 [.sl (.int .u32), .sl tCore, .sl tTold] (
   .loop [.int .i64, .sl (.int .u32), .sl tCore, .sl tTold] [.c (.int .i64 0), .v 4, .v 5, .c .nil] (
    .prim (.bin .lss) [.v 8, .v 7] <|
    .ite (.v 12) (
     .prim .get [.v 2, .v 8] <|
     .subp [.bool] (
      .prim (.bin .geq) [.v 13, .c (.int .i64 0)] <|
      .ite (.v 14) (
       .prim .len [.v 10] <|
       .prim (.bin .lss) [.v 13, .v 15] <|
       .jmp 0 false [.v 16]) (
       .jmp 0 false [.c (.bool false)])) 1 <|
     .sub0 [.sl (.int .u32), .sl tCore, .sl tTold] (
      .ite (.v 14) (
       .sub0 [.sl (.int .u32), .sl tCore, .sl tTold] (
        .prim .get [.v 0, .v 13] <|
        .prim .idx [.v 10, .v 13] <|
        .prim .get [.v 10, .v 16] <|
        .prim .len [.v 9] <|
        .call 57 F_core_Wants [.v 15, .v 17, .v 18] 1 <|
        .prim (.fld 0) [.v 19] <|
        .prim (.bin .eql) [.v 20, .c (.int .i64 4)] <|
        .sub0 [.sl tTold] (
         .ite (.v 21) (
          .prim (.fld 2) [.v 19] <|
          .mkS tsTold [.v 13, .v 22] <|
          .mkL tTold [.v 23] <|
          .prim (.app 16) [.v 11, .v 24] <|
          .jmp 0 false [.v 25]) (
          .jmp 0 false [.v 11])) 1 <|
        .prim .get [.v 0, .v 13] <|
        .prim .idx [.v 10, .v 13] <|
        .prim .get [.v 10, .v 24] <|
        .sub0 [.int .u32, .sl (.int .u32)] (
         .subp [.bool] (
          .prim (.fld 0) [.v 19] <|
          .prim (.bin .lss) [.v 26, .c (.int .i64 1)] <|
          .ite (.v 27) (
           .jmp 0 false [.c (.bool true)]) (
           .prim (.fld 0) [.v 19] <|
           .prim (.bin .gtr) [.v 28, .c (.int .i64 3)] <|
           .ite (.v 29) (
            .jmp 0 false [.c (.bool true)]) (
            .prim (.fld 1) [.v 19] <|
            .prim (.bin .lss) [.v 30, .c (.int .i64 0)] <|
            .ite (.v 31) (
             .jmp 0 false [.c (.bool true)]) (
             .prim (.fld 1) [.v 19] <|
             .prim .len [.v 9] <|
             .prim (.bin .geq) [.v 32, .v 33] <|
             .jmp 0 false [.v 34])))) 1 <|
         .ite (.v 26) (
          .jmp 0 false [.c (.int .u32 0), .v 9]) (
          .prim (.fld 1) [.v 19] <|
          .prim .idx [.v 9, .v 27] <|
          .prim .get [.v 9, .v 28] <|
          .subp [.bool] (
           .prim (.fld 0) [.v 19] <|
           .prim (.bin .eql) [.v 30, .c (.int .i64 2)] <|
           .ite (.v 31) (
            .jmp 0 false [.c (.bool true)]) (
            .prim (.fld 0) [.v 19] <|
            .prim (.bin .eql) [.v 32, .c (.int .i64 3)] <|
            .ite (.v 33) (
             .prim (.fld 3) [.v 19] <|
             .prim (.bin .eql) [.v 29, .v 34] <|
             .jmp 0 false [.v 35]) (
             .jmp 0 false [.c (.bool false)]))) 1 <|
          .sub0 [.sl (.int .u32)] (
           .ite (.v 30) (
            .prim (.fld 1) [.v 19] <|
            .prim (.fld 2) [.v 19] <|
            .prim .idx [.v 9, .v 31] <|
            .prim .set [.v 9, .v 33, .v 32] <|
            .jmp 0 false [.v 34]) (
            .jmp 0 false [.v 9])) 1 <|
          .jmp 0 false [.v 29, .v 31])) 2 <|
        .call 132 F_core_Done [.v 23, .v 25, .v 26] 1 <|
        .prim .idx [.v 10, .v 13] <|
        .prim .set [.v 10, .v 29, .v 28] <|
        .jmp 0 false [.v 27, .v 30, .v 22]) 3 <|
       .jmp 0 false [.v 15, .v 16, .v 17]) (
       .jmp 0 false [.v 9, .v 10, .v 11])) 3 <|
     .prim (.bin .add) [.v 8, .c (.int .i64 1)] <|
     .jmp 0 true [.v 18, .v 15, .v 16, .v 17]) (
     .jmp 1 false [.v 9, .v 10, .v 11]))) 3 <|
  .mkS tsAtom [.v 8, .v 9, .v 10] <|
  .jmp 0 false [.v 11, .c (.int .i64 0)])
theorem a_atom_Run : treeOf cx 12 35 = some A_atom_Run.erase := by kernel_rfl
theorem k_atom_Run : FnOk cx 12 noC 35 F_atom_Run := fn_ok (t := A_atom_Run) a_atom_Run (fun _ => rfl) (ok_of [(93, F_isa_All), (57, F_core_Wants), (132, F_core_Done)] (by kernel_rfl) (.cons k_isa_All (.cons k_core_Wants (.cons k_core_Done .nil)))) (fun x => by kernel_rfl)

/-! 39: backstay/atom.Right -/
noncomputable def atom_Right_L1 (x0 : List (List Ins)) (x3 : List Core) (x4 : Int) (s : Int) : Option (Int ⊕ Unit ⊕ Bool) :=
  if decide (s < x4) then
    (getO x3 s).bind fun v7 =>
    (getO x0 s).bind fun v8 =>
    (core_Right v8 v7).bind fun v9 =>
    if !v9 then
      some (Sum.inr (Sum.inr (false)))
    else
      some (Sum.inl (w64 (s + (1 : Int))))
  else
    some (Sum.inr (Sum.inl ()))
noncomputable def atom_Right (p0 : List (List Ins)) (p1 : Atom) : Option Bool :=
  (
    (isa_All p0).bind fun v2 =>
    if !v2 then
      some (true)
    else
      if decide ((List.length (Atom.Mem p1) : Int) < (1 : Int)) then
        some (true)
      else
        if decide ((64 : Int) < (List.length (Atom.Mem p1) : Int)) then
          some (true)
        else
          some ((!decide ((List.length (Atom.Cores p1) : Int) = (List.length p0 : Int)))) : Option Bool).bind fun v2 =>
  if v2 then
    some (false)
  else
    let v4 : Int := (List.length (Atom.Cores p1) : Int)
    orExit (
      loopD (atom_Right_L1 p0 (Atom.Cores p1) v4) (0 : Int) : Option (Unit ⊕ Bool)) fun v5 =>
    some (true)
noncomputable def F_atom_Right : FnT := ⟨[.sl (.sl tIns), tAtom], [.bool], fun x => atom_Right x.1 x.2⟩
noncomputable def A_atom_Right : TA :=
 .sub0 [.bool] (
  .call 93 F_isa_All [.v 0] 1 <|
  .prim (.un .not) [.v 2] <|
  .ite (.v 3) (
   .jmp 0 false [.c (.bool true)]) (
   .prim (.fld 0) [.v 1] <|
   .prim .len [.v 4] <|
   .prim (.bin .lss) [.v 5, .c (.int .i64 1)] <|
   .ite (.v 6) (
    .jmp 0 false [.c (.bool true)]) (
    .prim (.fld 0) [.v 1] <|
    .prim .len [.v 7] <|
    .prim (.bin .gtr) [.v 8, .c (.int .i64 64)] <|
    .ite (.v 9) (
     .jmp 0 false [.c (.bool true)]) (
     .prim (.fld 1) [.v 1] <|
     .prim .len [.v 10] <|
     .prim .len [.v 0] <|
     .prim (.bin .neq) [.v 11, .v 12] <|
     .jmp 0 false [.v 13])))) 1 <|
 .ite (.v 2) (
  .jmp 0 false [.c (.bool false)]) (
  .prim (.fld 1) [.v 1] <|
  .prim .len [.v 3] <|
  .sub1 [] (
   .loop [.int .i64] [.c (.int .i64 0)] (
    .prim (.bin .lss) [.v 5, .v 4] <|
    .ite (.v 6) (
     .prim .get [.v 3, .v 5] <|
     .prim .get [.v 0, .v 5] <|
     .call 94 F_core_Right [.v 8, .v 7] 1 <|
     .prim (.un .not) [.v 9] <|
     .ite (.v 10) (
      .jmp 2 false [.c (.bool false)]) (
      .prim (.bin .add) [.v 5, .c (.int .i64 1)] <|
      .jmp 0 true [.v 11])) (
     .jmp 1 false []))) 0 <|
  .jmp 0 false [.c (.bool true)])
theorem a_atom_Right : treeOf cx 12 39 = some A_atom_Right.erase := by kernel_rfl
theorem k_atom_Right : FnOk cx 12 noC 39 F_atom_Right := fn_ok (t := A_atom_Right) a_atom_Right (fun _ => rfl) (ok_of [(93, F_isa_All), (94, F_core_Right)] (by kernel_rfl) (.cons k_isa_All (.cons k_core_Right .nil))) (fun x => by kernel_rfl)

/-! 33: backstay/backstaylaw04.awake -/
def l04_awake : Bool := true
def F_l04_awake : PnT := ⟨[], [.bool], fun _ => l04_awake⟩
theorem k_l04_awake : FnOk cx 12 noC 33 F_l04_awake.fn := fun ds x r hx hr => by
  have hx : ds = [] := hx
  subst hx
  exact ⟨[.bool true], call_now 100 12 (by kernel_rfl), .bool true, rfl, congrArg D.bool (Option.some.inj hr)⟩

/-! 54: backstay/atom.Step -/
noncomputable def atom_Step (p0 : List (List Ins)) (p1 : Atom) (p2 : Int) : Option (Atom × Int) :=
  (
    (cloneO 4 (Atom.Mem p1)).bind fun v4 =>
    (cloneO 48 (Atom.Cores p1)).bind fun v6 =>
    (cloneO 16 (Atom.Outs p1)).bind fun v8 =>
    some ((v4, v6, v8)) : Option ((List Int) × (List Core) × (List Told))).bind fun v3 =>
  (
    (atom_Right p0 p1).bind fun v6 =>
    if !v6 then
      some (true)
    else
      if decide (p2 < (0 : Int)) then
        some (true)
      else
        some ((decide ((List.length (Atom.Cores p1) : Int) ≤ p2))) : Option Bool).bind fun v6 =>
  if v6 then
    some ((Atom.mk v3.1 v3.2.1 v3.2.2, (1 : Int)))
  else
    (
      (getO p0 p2).bind fun v7 =>
      (idxO (List.length v3.2.1 : Int) p2).bind fun v8 =>
      (getO v3.2.1 v8).bind fun v9 =>
      (core_Wants v7 v9 (List.length v3.1 : Int)).bind fun v11 =>
      (
        if decide ((Want.Kind v11) = (4 : Int)) then
          (appO 16 v3.2.2 ([Told.mk p2 (Want.Val v11)] : List Told)).bind fun v17 =>
          some (v17)
        else
          some (v3.2.2) : Option (List Told)).bind fun v14 =>
      (getO p0 p2).bind fun v15 =>
      (idxO (List.length v3.2.1 : Int) p2).bind fun v16 =>
      (getO v3.2.1 v16).bind fun v17 =>
      (
        if (decide ((Want.Kind v11) < (1 : Int))) || ((decide ((3 : Int) < (Want.Kind v11))) || ((decide ((Want.At v11) < (0 : Int))) || (decide ((List.length v3.1 : Int) ≤ (Want.At v11))))) then
          some (((0 : Int), v3.1))
        else
          (idxO (List.length v3.1 : Int) (Want.At v11)).bind fun v20 =>
          (getO v3.1 v20).bind fun v21 =>
          (
            if (decide ((Want.Kind v11) = (2 : Int))) || ((decide ((Want.Kind v11) = (3 : Int))) && (decide (v21 = (Want.Old v11)))) then
              (idxO (List.length v3.1 : Int) (Want.At v11)).bind fun v25 =>
              (setO v3.1 v25 (Want.Val v11)).bind fun v26 =>
              some (v26)
            else
              some (v3.1) : Option (List Int)).bind fun v23 =>
          some ((v21, v23)) : Option (Int × (List Int))).bind fun v18 =>
      (core_Done v15 v17 v18.1).bind fun v20 =>
      (idxO (List.length v3.2.1 : Int) p2).bind fun v21 =>
      (setO v3.2.1 v21 v20).bind fun v22 =>
      some ((v18.2, v22, v14)) : Option ((List Int) × (List Core) × (List Told))).bind fun v7 =>
    some ((Atom.mk v7.1 v7.2.1 v7.2.2, (0 : Int)))
noncomputable def F_atom_Step : FnT := ⟨[.sl (.sl tIns), tAtom, .int .i64], [tAtom, .int .i64], fun x => atom_Step x.1 x.2.1 x.2.2⟩
noncomputable def A_atom_Step : TA :=
 .sub0 [.sl (.int .u32), .sl tCore, .sl tTold] (
  .prim (.fld 0) [.v 1] <|
  .prim (.clone 4) [.v 3] <|
  .prim (.fld 1) [.v 1] <|
  .prim (.clone 48) [.v 5] <|
  .prim (.fld 2) [.v 1] <|
  .prim (.clone 16) [.v 7] <|
  .jmp 0 false [.v 4, .v 6, .v 8]) 3 <|
 .sub0 [.bool] (
  .call 39 F_atom_Right [.v 0, .v 1] 1 <|
  .prim (.un .not) [.v 6] <|
  .ite (.v 7) (
   .jmp 0 false [.c (.bool true)]) (
   .prim (.bin .lss) [.v 2, .c (.int .i64 0)] <|
   .ite (.v 8) (
    .jmp 0 false [.c (.bool true)]) (
    .prim (.fld 1) [.v 1] <|
    .prim .len [.v 9] <|
    .prim (.bin .geq) [.v 2, .v 10] <|
    .jmp 0 false [.v 11]))) 1 <|
 .ite (.v 6) (
  .mkS tsAtom [.v 3, .v 4, .v 5] <|
  .jmp 0 false [.v 7, .c (.int .i64 1)]) (
  .sub0 [.sl (.int .u32), .sl tCore, .sl tTold] (
   .prim .get [.v 0, .v 2] <|
   .prim .idx [.v 4, .v 2] <|
   .prim .get [.v 4, .v 8] <|
   .prim .len [.v 3] <|
   .call 57 F_core_Wants [.v 7, .v 9, .v 10] 1 <|
   .prim (.fld 0) [.v 11] <|
   .prim (.bin .eql) [.v 12, .c (.int .i64 4)] <|
   .sub0 [.sl tTold] (
    .ite (.v 13) (
     .prim (.fld 2) [.v 11] <|
     .mkS tsTold [.v 2, .v 14] <|
     .mkL tTold [.v 15] <|
     .prim (.app 16) [.v 5, .v 16] <|
     .jmp 0 false [.v 17]) (
     .jmp 0 false [.v 5])) 1 <|
   .prim .get [.v 0, .v 2] <|
   .prim .idx [.v 4, .v 2] <|
   .prim .get [.v 4, .v 16] <|
   .sub0 [.int .u32, .sl (.int .u32)] (
    .subp [.bool] (
     .prim (.fld 0) [.v 11] <|
     .prim (.bin .lss) [.v 18, .c (.int .i64 1)] <|
     .ite (.v 19) (
      .jmp 0 false [.c (.bool true)]) (
      .prim (.fld 0) [.v 11] <|
      .prim (.bin .gtr) [.v 20, .c (.int .i64 3)] <|
      .ite (.v 21) (
       .jmp 0 false [.c (.bool true)]) (
       .prim (.fld 1) [.v 11] <|
       .prim (.bin .lss) [.v 22, .c (.int .i64 0)] <|
       .ite (.v 23) (
        .jmp 0 false [.c (.bool true)]) (
        .prim (.fld 1) [.v 11] <|
        .prim .len [.v 3] <|
        .prim (.bin .geq) [.v 24, .v 25] <|
        .jmp 0 false [.v 26])))) 1 <|
    .ite (.v 18) (
     .jmp 0 false [.c (.int .u32 0), .v 3]) (
     .prim (.fld 1) [.v 11] <|
     .prim .idx [.v 3, .v 19] <|
     .prim .get [.v 3, .v 20] <|
     .subp [.bool] (
      .prim (.fld 0) [.v 11] <|
      .prim (.bin .eql) [.v 22, .c (.int .i64 2)] <|
      .ite (.v 23) (
       .jmp 0 false [.c (.bool true)]) (
       .prim (.fld 0) [.v 11] <|
       .prim (.bin .eql) [.v 24, .c (.int .i64 3)] <|
       .ite (.v 25) (
        .prim (.fld 3) [.v 11] <|
        .prim (.bin .eql) [.v 21, .v 26] <|
        .jmp 0 false [.v 27]) (
        .jmp 0 false [.c (.bool false)]))) 1 <|
     .sub0 [.sl (.int .u32)] (
      .ite (.v 22) (
       .prim (.fld 1) [.v 11] <|
       .prim (.fld 2) [.v 11] <|
       .prim .idx [.v 3, .v 23] <|
       .prim .set [.v 3, .v 25, .v 24] <|
       .jmp 0 false [.v 26]) (
       .jmp 0 false [.v 3])) 1 <|
     .jmp 0 false [.v 21, .v 23])) 2 <|
   .call 132 F_core_Done [.v 15, .v 17, .v 18] 1 <|
   .prim .idx [.v 4, .v 2] <|
   .prim .set [.v 4, .v 21, .v 20] <|
   .jmp 0 false [.v 19, .v 22, .v 14]) 3 <|
  .mkS tsAtom [.v 7, .v 8, .v 9] <|
  .jmp 0 false [.v 10, .c (.int .i64 0)])
theorem a_atom_Step : treeOf cx 12 54 = some A_atom_Step.erase := by kernel_rfl
theorem k_atom_Step : FnOk cx 12 noC 54 F_atom_Step := fn_ok (t := A_atom_Step) a_atom_Step (fun _ => rfl) (ok_of [(39, F_atom_Right), (57, F_core_Wants), (132, F_core_Done)] (by kernel_rfl) (.cons k_atom_Right (.cons k_core_Wants (.cons k_core_Done .nil)))) (fun x => by kernel_rfl)

end Go.Proofs.Ytihchahfnhoapaa
