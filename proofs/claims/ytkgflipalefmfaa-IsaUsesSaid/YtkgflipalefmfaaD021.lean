/- The types of this cut, and its functions as functions of plain typed data. Printed by a program of this claim's prover; each is checked here to be what the executor makes of the code. -/
import Derived.Test.YtkgflipalefmfaaProg
import Derived.Test.YtkgflipalefmfaaLim
import Derived.KernelRfl
set_option linter.unusedVariables false
set_option maxRecDepth 100000
namespace Go.Proofs.Ytkgflipalefmfaa
open Go.SX
abbrev tsruntime_errorAddressString : List Ty := [.str, .int .u64]
abbrev truntime_errorAddressString : Ty := .st tsruntime_errorAddressString
abbrev runtime_errorAddressString : Type := (List Int) × Int
def runtime_errorAddressString.mk (msg : List Int) (addr : Int) : runtime_errorAddressString := (msg, addr)
def runtime_errorAddressString.msg (x : runtime_errorAddressString) : List Int := x.1
def runtime_errorAddressString.addr (x : runtime_errorAddressString) : Int := x.2
def runtime_errorAddressString.setmsg (x : runtime_errorAddressString) (v : List Int) : runtime_errorAddressString := (v, x.2)
def runtime_errorAddressString.setaddr (x : runtime_errorAddressString) (v : Int) : runtime_errorAddressString := (x.1, v)
@[simp] theorem runtime_errorAddressString.msg_mk (msg : List Int) (addr : Int) : runtime_errorAddressString.msg (runtime_errorAddressString.mk msg addr) = msg := rfl
@[simp] theorem runtime_errorAddressString.addr_mk (msg : List Int) (addr : Int) : runtime_errorAddressString.addr (runtime_errorAddressString.mk msg addr) = addr := rfl
@[simp] theorem runtime_errorAddressString.setmsg_eq (x : runtime_errorAddressString) (v : List Int) : runtime_errorAddressString.setmsg x v = runtime_errorAddressString.mk v (runtime_errorAddressString.addr x) := rfl
@[simp] theorem runtime_errorAddressString.setaddr_eq (x : runtime_errorAddressString) (v : Int) : runtime_errorAddressString.setaddr x v = runtime_errorAddressString.mk (runtime_errorAddressString.msg x) v := rfl
@[simp] theorem runtime_errorAddressString.eta (x : runtime_errorAddressString) : runtime_errorAddressString.mk (runtime_errorAddressString.msg x) (runtime_errorAddressString.addr x) = x := rfl

abbrev tsIns : List Ty := [.int .i64, .int .i64, .int .i64, .int .i64, .int .u32]
abbrev tIns : Ty := .st tsIns
abbrev Ins : Type := Int × Int × Int × Int × Int
def Ins.mk (Op : Int) (A : Int) (B : Int) (C : Int) (K : Int) : Ins := (Op, A, B, C, K)
def Ins.Op (x : Ins) : Int := x.1
def Ins.A (x : Ins) : Int := x.2.1
def Ins.B (x : Ins) : Int := x.2.2.1
def Ins.C (x : Ins) : Int := x.2.2.2.1
def Ins.K (x : Ins) : Int := x.2.2.2.2
def Ins.setOp (x : Ins) (v : Int) : Ins := (v, x.2.1, x.2.2.1, x.2.2.2.1, x.2.2.2.2)
def Ins.setA (x : Ins) (v : Int) : Ins := (x.1, v, x.2.2.1, x.2.2.2.1, x.2.2.2.2)
def Ins.setB (x : Ins) (v : Int) : Ins := (x.1, x.2.1, v, x.2.2.2.1, x.2.2.2.2)
def Ins.setC (x : Ins) (v : Int) : Ins := (x.1, x.2.1, x.2.2.1, v, x.2.2.2.2)
def Ins.setK (x : Ins) (v : Int) : Ins := (x.1, x.2.1, x.2.2.1, x.2.2.2.1, v)
@[simp] theorem Ins.Op_mk (Op : Int) (A : Int) (B : Int) (C : Int) (K : Int) : Ins.Op (Ins.mk Op A B C K) = Op := rfl
@[simp] theorem Ins.A_mk (Op : Int) (A : Int) (B : Int) (C : Int) (K : Int) : Ins.A (Ins.mk Op A B C K) = A := rfl
@[simp] theorem Ins.B_mk (Op : Int) (A : Int) (B : Int) (C : Int) (K : Int) : Ins.B (Ins.mk Op A B C K) = B := rfl
@[simp] theorem Ins.C_mk (Op : Int) (A : Int) (B : Int) (C : Int) (K : Int) : Ins.C (Ins.mk Op A B C K) = C := rfl
@[simp] theorem Ins.K_mk (Op : Int) (A : Int) (B : Int) (C : Int) (K : Int) : Ins.K (Ins.mk Op A B C K) = K := rfl
@[simp] theorem Ins.setOp_eq (x : Ins) (v : Int) : Ins.setOp x v = Ins.mk v (Ins.A x) (Ins.B x) (Ins.C x) (Ins.K x) := rfl
@[simp] theorem Ins.setA_eq (x : Ins) (v : Int) : Ins.setA x v = Ins.mk (Ins.Op x) v (Ins.B x) (Ins.C x) (Ins.K x) := rfl
@[simp] theorem Ins.setB_eq (x : Ins) (v : Int) : Ins.setB x v = Ins.mk (Ins.Op x) (Ins.A x) v (Ins.C x) (Ins.K x) := rfl
@[simp] theorem Ins.setC_eq (x : Ins) (v : Int) : Ins.setC x v = Ins.mk (Ins.Op x) (Ins.A x) (Ins.B x) v (Ins.K x) := rfl
@[simp] theorem Ins.setK_eq (x : Ins) (v : Int) : Ins.setK x v = Ins.mk (Ins.Op x) (Ins.A x) (Ins.B x) (Ins.C x) v := rfl
@[simp] theorem Ins.eta (x : Ins) : Ins.mk (Ins.Op x) (Ins.A x) (Ins.B x) (Ins.C x) (Ins.K x) = x := rfl

abbrev tsruntime_boundsError : List Ty := [.int .i64, .int .i64, .bool, .int .u8]
abbrev truntime_boundsError : Ty := .st tsruntime_boundsError
abbrev runtime_boundsError : Type := Int × Int × Bool × Int
def runtime_boundsError.mk (x : Int) (y : Int) (signed : Bool) (code : Int) : runtime_boundsError := (x, y, signed, code)
def runtime_boundsError.x (x : runtime_boundsError) : Int := x.1
def runtime_boundsError.y (x : runtime_boundsError) : Int := x.2.1
def runtime_boundsError.signed (x : runtime_boundsError) : Bool := x.2.2.1
def runtime_boundsError.code (x : runtime_boundsError) : Int := x.2.2.2
def runtime_boundsError.setx (x : runtime_boundsError) (v : Int) : runtime_boundsError := (v, x.2.1, x.2.2.1, x.2.2.2)
def runtime_boundsError.sety (x : runtime_boundsError) (v : Int) : runtime_boundsError := (x.1, v, x.2.2.1, x.2.2.2)
def runtime_boundsError.setsigned (x : runtime_boundsError) (v : Bool) : runtime_boundsError := (x.1, x.2.1, v, x.2.2.2)
def runtime_boundsError.setcode (x : runtime_boundsError) (v : Int) : runtime_boundsError := (x.1, x.2.1, x.2.2.1, v)
@[simp] theorem runtime_boundsError.x_mk (x : Int) (y : Int) (signed : Bool) (code : Int) : runtime_boundsError.x (runtime_boundsError.mk x y signed code) = x := rfl
@[simp] theorem runtime_boundsError.y_mk (x : Int) (y : Int) (signed : Bool) (code : Int) : runtime_boundsError.y (runtime_boundsError.mk x y signed code) = y := rfl
@[simp] theorem runtime_boundsError.signed_mk (x : Int) (y : Int) (signed : Bool) (code : Int) : runtime_boundsError.signed (runtime_boundsError.mk x y signed code) = signed := rfl
@[simp] theorem runtime_boundsError.code_mk (x : Int) (y : Int) (signed : Bool) (code : Int) : runtime_boundsError.code (runtime_boundsError.mk x y signed code) = code := rfl
@[simp] theorem runtime_boundsError.setx_eq (x : runtime_boundsError) (v : Int) : runtime_boundsError.setx x v = runtime_boundsError.mk v (runtime_boundsError.y x) (runtime_boundsError.signed x) (runtime_boundsError.code x) := rfl
@[simp] theorem runtime_boundsError.sety_eq (x : runtime_boundsError) (v : Int) : runtime_boundsError.sety x v = runtime_boundsError.mk (runtime_boundsError.x x) v (runtime_boundsError.signed x) (runtime_boundsError.code x) := rfl
@[simp] theorem runtime_boundsError.setsigned_eq (x : runtime_boundsError) (v : Bool) : runtime_boundsError.setsigned x v = runtime_boundsError.mk (runtime_boundsError.x x) (runtime_boundsError.y x) v (runtime_boundsError.code x) := rfl
@[simp] theorem runtime_boundsError.setcode_eq (x : runtime_boundsError) (v : Int) : runtime_boundsError.setcode x v = runtime_boundsError.mk (runtime_boundsError.x x) (runtime_boundsError.y x) (runtime_boundsError.signed x) v := rfl
@[simp] theorem runtime_boundsError.eta (x : runtime_boundsError) : runtime_boundsError.mk (runtime_boundsError.x x) (runtime_boundsError.y x) (runtime_boundsError.signed x) (runtime_boundsError.code x) = x := rfl

def tys : List Ty := [.no, .no, .int .i64, .int .i64, .bool, .int .u8, .int .u8, truntime_boundsError, truntime_boundsError, .str, .str, .str, .int .u64, truntime_errorAddressString, truntime_errorAddressString, .no, .no, .no, .no, .no, .no, .int .i32, .int .u32, .sl (.int .u8), .no, .no, .no, .no, .int .u64, .no, .no, .no, .no, .no, .no, tIns, tIns, .sl (.sl tIns), .no, .no, .sl tIns, .no, .no, .no, .no, .no, .no, .no, .int .u64, .arr 4 (.int .u8), .no, .no, .no, .no, .no, .no, .no, .no, .no, .no, .no, .no, .no, .no, .no, .no, .int .u8, .int .u8, .no, .no, .int .i32, .int .i32, .no, .no, .no]
noncomputable def cx : Cx := { P := Try.prog, ty := tys, own := [], inl := [], keepL := [], absL := [], heads := [] }
theorem tyOk : TysOk cx := chkTys_ok (by kernel_rfl)
theorem mixed : Try.prog.follows .mixedOrders = true := by kernel_rfl
def noC : FuncId → List D → Option (List D) := fun _ _ => none
theorem noC_ok : CallsOk cx noC := fun _ _ _ _ _ _ _ h => by cases h
theorem call_now {f : FuncId} {ds rs : List D} (k d : Nat) (h : callF cx k 12 noC d f ds = some rs) : callL cx 12 noC f ds = some rs := (callL_some cx 12 noC).2 ⟨k, d, h⟩

/-! 31: backstay/isa.register -/
def isa_register (p0 : Int) (p1 : Bool) : Bool :=
  bif !p1 then decide (p0 = (0 : Int)) else (decide ((0 : Int) ≤ p0)) && (decide (p0 < (8 : Int)))
def F_isa_register : PnT := ⟨[.int .i64, .bool], [.bool], fun x => isa_register x.1 x.2⟩
def A_isa_register : TA :=
 .prim (.un .not) [.v 1] <|
 .ite (.v 2) (
  .prim (.bin .eql) [.v 0, .c (.int .i64 0)] <|
  .jmp 0 false [.v 3]) (
  .subp [.bool] (
   .prim (.bin .geq) [.v 0, .c (.int .i64 0)] <|
   .ite (.v 3) (
    .prim (.bin .lss) [.v 0, .c (.int .i64 8)] <|
    .jmp 0 false [.v 4]) (
    .jmp 0 false [.c (.bool false)])) 1 <|
  .jmp 0 false [.v 3])
theorem a_isa_register : treeOf cx 12 31 = some A_isa_register.erase := by kernel_rfl
theorem k_isa_register : FnOk cx 12 noC 31 F_isa_register.fn := pn_ok (t := A_isa_register) a_isa_register (fun _ => rfl) (ok_of [] (by kernel_rfl) .nil) (fun x => by kernel_rfl)

/-! 36: backstay/isa.uses -/
def isa_uses (p0 : Int) : Int :=
  let v1 : Bool := decide (p0 = (1 : Int))
  let v3e : Bool := decide (p0 = (2 : Int))
  let v4e_e : Bool := decide (p0 = (3 : Int))
  let v5e_e_e : Bool := decide (p0 = (4 : Int))
  let v6e_e_e_e : Bool := decide (p0 = (5 : Int))
  let v7e_e_e_e_e : Bool := decide (p0 = (6 : Int))
  let v8e_e_e_e_e_e : Bool := decide (p0 = (7 : Int))
  let v9e_e_e_e_e_e_e : Bool := decide (p0 = (8 : Int))
  let v5ee : Bool := decide (p0 = (9 : Int))
  bif bif v1 then v1 else decide (p0 = (14 : Int)) then (9 : Int) else bif bif v3e then v3e else bif v4e_e then v4e_e else bif v5e_e_e then v5e_e_e else bif v6e_e_e_e then v6e_e_e_e else bif v7e_e_e_e_e then v7e_e_e_e_e else bif v8e_e_e_e_e_e then v8e_e_e_e_e_e else bif v9e_e_e_e_e_e_e then v9e_e_e_e_e_e_e else decide (p0 = (11 : Int)) then (7 : Int) else bif bif v5ee then v5ee else decide (p0 = (10 : Int)) then (3 : Int) else bif decide (p0 = (13 : Int)) then (8 : Int) else bif decide (p0 = (15 : Int)) then (1 : Int) else (0 : Int)
def F_isa_uses : PnT := ⟨[.int .i64], [.int .i64], fun x => isa_uses x⟩
def A_isa_uses : TA :=
 .prim (.bin .eql) [.v 0, .c (.int .i64 1)] <|
 .subp [.bool] (
  .ite (.v 1) (
   .jmp 0 false [.v 1]) (
   .prim (.bin .eql) [.v 0, .c (.int .i64 14)] <|
   .jmp 0 false [.v 2])) 1 <|
 .ite (.v 2) (
  .jmp 0 false [.c (.int .i64 9)]) (
  .prim (.bin .eql) [.v 0, .c (.int .i64 2)] <|
  .subp [.bool] (
   .ite (.v 3) (
    .jmp 0 false [.v 3]) (
    .prim (.bin .eql) [.v 0, .c (.int .i64 3)] <|
    .subp [.bool] (
     .ite (.v 4) (
      .jmp 0 false [.v 4]) (
      .prim (.bin .eql) [.v 0, .c (.int .i64 4)] <|
      .subp [.bool] (
       .ite (.v 5) (
        .jmp 0 false [.v 5]) (
        .prim (.bin .eql) [.v 0, .c (.int .i64 5)] <|
        .subp [.bool] (
         .ite (.v 6) (
          .jmp 0 false [.v 6]) (
          .prim (.bin .eql) [.v 0, .c (.int .i64 6)] <|
          .subp [.bool] (
           .ite (.v 7) (
            .jmp 0 false [.v 7]) (
            .prim (.bin .eql) [.v 0, .c (.int .i64 7)] <|
            .subp [.bool] (
             .ite (.v 8) (
              .jmp 0 false [.v 8]) (
              .prim (.bin .eql) [.v 0, .c (.int .i64 8)] <|
              .subp [.bool] (
               .ite (.v 9) (
                .jmp 0 false [.v 9]) (
                .prim (.bin .eql) [.v 0, .c (.int .i64 11)] <|
                .jmp 0 false [.v 10])) 1 <|
              .jmp 0 false [.v 10])) 1 <|
            .jmp 0 false [.v 9])) 1 <|
          .jmp 0 false [.v 8])) 1 <|
        .jmp 0 false [.v 7])) 1 <|
      .jmp 0 false [.v 6])) 1 <|
    .jmp 0 false [.v 5])) 1 <|
  .ite (.v 4) (
   .jmp 0 false [.c (.int .i64 7)]) (
   .prim (.bin .eql) [.v 0, .c (.int .i64 9)] <|
   .subp [.bool] (
    .ite (.v 5) (
     .jmp 0 false [.v 5]) (
     .prim (.bin .eql) [.v 0, .c (.int .i64 10)] <|
     .jmp 0 false [.v 6])) 1 <|
   .ite (.v 6) (
    .jmp 0 false [.c (.int .i64 3)]) (
    .prim (.bin .eql) [.v 0, .c (.int .i64 13)] <|
    .ite (.v 7) (
     .jmp 0 false [.c (.int .i64 8)]) (
     .prim (.bin .eql) [.v 0, .c (.int .i64 15)] <|
     .ite (.v 8) (
      .jmp 0 false [.c (.int .i64 1)]) (
      .jmp 0 false [.c (.int .i64 0)])))))
theorem a_isa_uses : treeOf cx 12 36 = some A_isa_uses.erase := by kernel_rfl
theorem k_isa_uses : FnOk cx 12 noC 36 F_isa_uses.fn := pn_ok (t := A_isa_uses) a_isa_uses (fun _ => rfl) (ok_of [] (by kernel_rfl) .nil) (fun x => by kernel_rfl)

/-! 26: backstay/isa.Uses -/
def isa_Uses (p0 : Int) : (Bool × Bool × Bool × Bool) :=
  let v1 : Int := isa_uses p0
  (!decide ((bAnd .i64 v1 (1 : Int)) = (0 : Int)), !decide ((bAnd .i64 v1 (2 : Int)) = (0 : Int)), !decide ((bAnd .i64 v1 (4 : Int)) = (0 : Int)), !decide ((bAnd .i64 v1 (8 : Int)) = (0 : Int)))
def F_isa_Uses : PnT := ⟨[.int .i64], [.bool, .bool, .bool, .bool], fun x => isa_Uses x⟩
def A_isa_Uses : TA :=
 .callp 36 F_isa_uses [.v 0] 1 <|
 .prim (.bin .and) [.v 1, .c (.int .i64 1)] <|
 .prim (.bin .neq) [.v 2, .c (.int .i64 0)] <|
 .prim (.bin .and) [.v 1, .c (.int .i64 2)] <|
 .prim (.bin .neq) [.v 4, .c (.int .i64 0)] <|
 .prim (.bin .and) [.v 1, .c (.int .i64 4)] <|
 .prim (.bin .neq) [.v 6, .c (.int .i64 0)] <|
 .prim (.bin .and) [.v 1, .c (.int .i64 8)] <|
 .prim (.bin .neq) [.v 8, .c (.int .i64 0)] <|
 .jmp 0 false [.v 3, .v 5, .v 7, .v 9]
theorem a_isa_Uses : treeOf cx 12 26 = some A_isa_Uses.erase := by kernel_rfl
theorem k_isa_Uses : FnOk cx 12 noC 26 F_isa_Uses.fn := pn_ok (t := A_isa_Uses) a_isa_Uses (fun _ => rfl) (ok_of [(36, F_isa_uses.fn)] (by kernel_rfl) (.cons k_isa_uses .nil)) (fun x => by kernel_rfl)

/-! 22: backstay/isa.May -/
def isa_May (p0 : Ins) (p1 : Int) : Bool :=
  let v3 : (Bool × Bool × Bool × Bool) := isa_Uses (Ins.Op p0)
  bif (decide ((Ins.Op p0) < (1 : Int))) || ((decide ((16 : Int) < (Ins.Op p0))) || ((!(isa_register (Ins.A p0) v3.1)) || ((!(isa_register (Ins.B p0) v3.2.1)) || (!(isa_register (Ins.C p0) v3.2.2.1))))) then false else (decide ((Ins.Op p0) = (1 : Int))) || (bif !v3.2.2.2 then decide ((Ins.K p0) = (0 : Int)) else (decide ((0 : Int) < p1)) && (decide ((wu64 (Ins.K p0)) < (wu64 p1))))
def F_isa_May : PnT := ⟨[tIns, .int .i64], [.bool], fun x => isa_May x.1 x.2⟩
def A_isa_May : TA :=
 .prim (.fld 0) [.v 0] <|
 .callp 26 F_isa_Uses [.v 2] 4 <|
 .subp [.bool] (
  .prim (.fld 0) [.v 0] <|
  .prim (.bin .lss) [.v 7, .c (.int .i64 1)] <|
  .ite (.v 8) (
   .jmp 0 false [.c (.bool true)]) (
   .prim (.fld 0) [.v 0] <|
   .prim (.bin .gtr) [.v 9, .c (.int .i64 16)] <|
   .ite (.v 10) (
    .jmp 0 false [.c (.bool true)]) (
    .prim (.fld 1) [.v 0] <|
    .callp 31 F_isa_register [.v 11, .v 3] 1 <|
    .prim (.un .not) [.v 12] <|
    .ite (.v 13) (
     .jmp 0 false [.c (.bool true)]) (
     .prim (.fld 2) [.v 0] <|
     .callp 31 F_isa_register [.v 14, .v 4] 1 <|
     .prim (.un .not) [.v 15] <|
     .ite (.v 16) (
      .jmp 0 false [.c (.bool true)]) (
      .prim (.fld 3) [.v 0] <|
      .callp 31 F_isa_register [.v 17, .v 5] 1 <|
      .prim (.un .not) [.v 18] <|
      .jmp 0 false [.v 19]))))) 1 <|
 .ite (.v 7) (
  .jmp 0 false [.c (.bool false)]) (
  .prim (.fld 0) [.v 0] <|
  .prim (.bin .eql) [.v 8, .c (.int .i64 1)] <|
  .ite (.v 9) (
   .jmp 0 false [.c (.bool true)]) (
   .prim (.un .not) [.v 6] <|
   .ite (.v 10) (
    .prim (.fld 4) [.v 0] <|
    .prim (.bin .eql) [.v 11, .c (.int .u32 0)] <|
    .jmp 0 false [.v 12]) (
    .subp [.bool] (
     .prim (.bin .gtr) [.v 1, .c (.int .i64 0)] <|
     .ite (.v 11) (
      .prim (.fld 4) [.v 0] <|
      .prim (.conv .u64) [.v 12] <|
      .prim (.conv .u64) [.v 1] <|
      .prim (.bin .lss) [.v 13, .v 14] <|
      .jmp 0 false [.v 15]) (
      .jmp 0 false [.c (.bool false)])) 1 <|
    .jmp 0 false [.v 11])))
theorem a_isa_May : treeOf cx 12 22 = some A_isa_May.erase := by kernel_rfl
theorem k_isa_May : FnOk cx 12 noC 22 F_isa_May.fn := pn_ok (t := A_isa_May) a_isa_May (fun _ => rfl) (ok_of [(26, F_isa_Uses.fn), (31, F_isa_register.fn), (31, F_isa_register.fn), (31, F_isa_register.fn)] (by kernel_rfl) (.cons k_isa_Uses (.cons k_isa_register (.cons k_isa_register (.cons k_isa_register .nil))))) (fun x => by kernel_rfl)

/-! 20: backstay/isa.Right -/
noncomputable def isa_Right_L1 (x0 : List Ins) (x7 : Int) (s : Int) : Option (Int ⊕ Unit ⊕ Int) :=
  if decide (s < x7) then
    (getO x0 s).bind fun v10 =>
    if !(isa_May v10 (List.length x0 : Int)) then
      some (Sum.inr (Sum.inr (s)))
    else
      some (Sum.inl (w64 (s + (1 : Int))))
  else
    some (Sum.inr (Sum.inl ()))
noncomputable def isa_Right (p0 : List Ins) : Option Bool :=
  if (decide ((List.length p0 : Int) < (1 : Int))) || (decide ((64 : Int) < (List.length p0 : Int))) then
    some (false)
  else
    (getO p0 (w64 ((List.length p0 : Int) - (1 : Int)))).bind fun v4 =>
    (
      if (decide ((Ins.Op v4) = (16 : Int))) || (decide ((Ins.Op v4) = (13 : Int))) then
        (
          (
            let v7 : Int := (List.length p0 : Int)
            orExit (
              loopD (isa_Right_L1 p0 v7) (0 : Int) : Option (Unit ⊕ Int)) fun v8 =>
            some ((-1 : Int)) : Option Int).bind fun v7 =>
          some ((decide ((0 : Int) ≤ v7))) : Option Bool).bind fun v7 =>
        some ((!v7))
      else
        some (false) : Option Bool).bind fun v7 =>
    some (v7)
noncomputable def F_isa_Right : FnT := ⟨[.sl tIns], [.bool], fun x => isa_Right x⟩
noncomputable def A_isa_Right : TA :=
 .subp [.bool] (
  .prim .len [.v 0] <|
  .prim (.bin .lss) [.v 1, .c (.int .i64 1)] <|
  .ite (.v 2) (
   .jmp 0 false [.c (.bool true)]) (
   .prim .len [.v 0] <|
   .prim (.bin .gtr) [.v 3, .c (.int .i64 64)] <|
   .jmp 0 false [.v 4])) 1 <|
 .ite (.v 1) (
  .jmp 0 false [.c (.bool false)]) (
  .prim .len [.v 0] <|
  .prim (.bin .sub) [.v 2, .c (.int .i64 1)] <|
  .prim .get [.v 0, .v 3] <|
  .prim (.fld 0) [.v 4] <|
  .subp [.bool] (
   .prim (.bin .eql) [.v 5, .c (.int .i64 16)] <|
   .ite (.v 6) (
    .jmp 0 false [.c (.bool true)]) (
    .prim (.bin .eql) [.v 5, .c (.int .i64 13)] <|
    .jmp 0 false [.v 7])) 1 <|
  .sub0 [.bool] (
   .ite (.v 6) (
    .sub0 [.bool] (
     .sub0 [.int .i64] (
      .prim .len [.v 0] <|
      .sub1 [] (
       .loop [.int .i64] [.c (.int .i64 0)] (
        .prim (.bin .lss) [.v 8, .v 7] <|
        .ite (.v 9) (
         .prim .get [.v 0, .v 8] <|
         .subp [.bool] (
          .prim .len [.v 0] <|
          .callp 22 F_isa_May [.v 10, .v 11] 1 <|
          .prim (.un .not) [.v 12] <|
          .jmp 0 false [.v 13]) 1 <|
         .ite (.v 11) (
          .jmp 2 false [.v 8]) (
          .prim (.bin .add) [.v 8, .c (.int .i64 1)] <|
          .jmp 0 true [.v 12])) (
         .jmp 1 false []))) 0 <|
      .jmp 0 false [.c (.int .i64 (-1))]) 1 <|
     .prim (.bin .geq) [.v 7, .c (.int .i64 0)] <|
     .jmp 0 false [.v 8]) 1 <|
    .prim (.un .not) [.v 7] <|
    .jmp 0 false [.v 8]) (
    .jmp 0 false [.c (.bool false)])) 1 <|
  .jmp 0 false [.v 7])
theorem a_isa_Right : treeOf cx 12 20 = some A_isa_Right.erase := by kernel_rfl
theorem k_isa_Right : FnOk cx 12 noC 20 F_isa_Right := fn_ok (t := A_isa_Right) a_isa_Right (fun _ => rfl) (ok_of [(22, F_isa_May.fn)] (by kernel_rfl) (.cons k_isa_May .nil)) (fun x => by kernel_rfl)

/-! 35: backstay/isa.All$1 -/
noncomputable def isa_All_1 (p0 : List Ins) : Option Bool :=
  (isa_Right p0).bind fun v1 =>
  some ((!v1))
noncomputable def F_isa_All_1 : FnT := ⟨[.sl tIns], [.bool], fun x => isa_All_1 x⟩
noncomputable def A_isa_All_1 : TA :=
 .call 20 F_isa_Right [.v 0] 1 <|
 .prim (.un .not) [.v 1] <|
 .jmp 0 false [.v 2]
theorem a_isa_All_1 : treeOf cx 12 35 = some A_isa_All_1.erase := by kernel_rfl
theorem k_isa_All_1 : FnOk cx 12 noC 35 F_isa_All_1 := fn_ok (t := A_isa_All_1) a_isa_All_1 (fun _ => rfl) (ok_of [(20, F_isa_Right)] (by kernel_rfl) (.cons k_isa_Right .nil)) (fun x => by kernel_rfl)

/-! 24: backstay/isa.All -/
noncomputable def isa_All_L1 (x0 : List (List Ins)) (x2 : Int) (s : Int) : Option (Int ⊕ Unit ⊕ Int) :=
  if decide (s < x2) then
    (getO x0 s).bind fun v5 =>
    (isa_All_1 v5).bind fun v6 =>
    if v6 then
      some (Sum.inr (Sum.inr (s)))
    else
      some (Sum.inl (w64 (s + (1 : Int))))
  else
    some (Sum.inr (Sum.inl ()))
noncomputable def isa_All (p0 : List (List Ins)) : Option Bool :=
  (
    if (decide ((1 : Int) ≤ (List.length p0 : Int))) && (decide ((List.length p0 : Int) ≤ (4 : Int))) then
      (
        (
          let v2 : Int := (List.length p0 : Int)
          orExit (
            loopD (isa_All_L1 p0 v2) (0 : Int) : Option (Unit ⊕ Int)) fun v3 =>
          some ((-1 : Int)) : Option Int).bind fun v2 =>
        some ((decide ((0 : Int) ≤ v2))) : Option Bool).bind fun v2 =>
      some ((!v2))
    else
      some (false) : Option Bool).bind fun v2 =>
  some (v2)
noncomputable def F_isa_All : FnT := ⟨[.sl (.sl tIns)], [.bool], fun x => isa_All x⟩
noncomputable def A_isa_All : TA :=
 .subp [.bool] (
  .prim .len [.v 0] <|
  .prim (.bin .geq) [.v 1, .c (.int .i64 1)] <|
  .ite (.v 2) (
   .prim .len [.v 0] <|
   .prim (.bin .leq) [.v 3, .c (.int .i64 4)] <|
   .jmp 0 false [.v 4]) (
   .jmp 0 false [.c (.bool false)])) 1 <|
 .sub0 [.bool] (
  .ite (.v 1) (
   .sub0 [.bool] (
    .sub0 [.int .i64] (
     .prim .len [.v 0] <|
     .sub1 [] (
      .loop [.int .i64] [.c (.int .i64 0)] (
       .prim (.bin .lss) [.v 3, .v 2] <|
       .ite (.v 4) (
        .prim .get [.v 0, .v 3] <|
        .call 35 F_isa_All_1 [.v 5] 1 <|
        .ite (.v 6) (
         .jmp 2 false [.v 3]) (
         .prim (.bin .add) [.v 3, .c (.int .i64 1)] <|
         .jmp 0 true [.v 7])) (
        .jmp 1 false []))) 0 <|
     .jmp 0 false [.c (.int .i64 (-1))]) 1 <|
    .prim (.bin .geq) [.v 2, .c (.int .i64 0)] <|
    .jmp 0 false [.v 3]) 1 <|
   .prim (.un .not) [.v 2] <|
   .jmp 0 false [.v 3]) (
   .jmp 0 false [.c (.bool false)])) 1 <|
 .jmp 0 false [.v 2]
theorem a_isa_All : treeOf cx 12 24 = some A_isa_All.erase := by kernel_rfl
theorem k_isa_All : FnOk cx 12 noC 24 F_isa_All := fn_ok (t := A_isa_All) a_isa_All (fun _ => rfl) (ok_of [(35, F_isa_All_1)] (by kernel_rfl) (.cons k_isa_All_1 .nil)) (fun x => by kernel_rfl)

/-! 18: backstay/backstaylaw02.awake -/
def l02_awake : Bool := true
def F_l02_awake : PnT := ⟨[], [.bool], fun _ => l02_awake⟩
theorem k_l02_awake : FnOk cx 12 noC 18 F_l02_awake.fn := fun ds x r hx hr => by
  have hx : ds = [] := hx
  subst hx
  exact ⟨[.bool true], call_now 100 12 (by kernel_rfl), .bool true, rfl, congrArg D.bool (Option.some.inj hr)⟩

end Go.Proofs.Ytkgflipalefmfaa
