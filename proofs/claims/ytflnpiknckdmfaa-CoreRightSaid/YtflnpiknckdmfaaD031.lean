/- The types of this cut, and its functions as functions of plain typed data. Printed by a program of this claim's prover; each is checked here to be what the executor makes of the code. -/
import Derived.Test.YtflnpiknckdmfaaProg
import Derived.Test.YtflnpiknckdmfaaLim
import Derived.KernelRfl
set_option linter.unusedVariables false
set_option maxRecDepth 100000
namespace Go.Proofs.Ytflnpiknckdmfaa
open Go.SX
abbrev tsl07_Put : List Ty := [.int .u8, .int .u8, .int .u32]
abbrev tl07_Put : Ty := .st tsl07_Put
abbrev l07_Put : Type := Int × Int × Int
def l07_Put.mk (Bank : Int) (At : Int) (Word : Int) : l07_Put := (Bank, At, Word)
def l07_Put.Bank (x : l07_Put) : Int := x.1
def l07_Put.At (x : l07_Put) : Int := x.2.1
def l07_Put.Word (x : l07_Put) : Int := x.2.2
def l07_Put.setBank (x : l07_Put) (v : Int) : l07_Put := (v, x.2.1, x.2.2)
def l07_Put.setAt (x : l07_Put) (v : Int) : l07_Put := (x.1, v, x.2.2)
def l07_Put.setWord (x : l07_Put) (v : Int) : l07_Put := (x.1, x.2.1, v)
@[simp] theorem l07_Put.Bank_mk (Bank : Int) (At : Int) (Word : Int) : l07_Put.Bank (l07_Put.mk Bank At Word) = Bank := rfl
@[simp] theorem l07_Put.At_mk (Bank : Int) (At : Int) (Word : Int) : l07_Put.At (l07_Put.mk Bank At Word) = At := rfl
@[simp] theorem l07_Put.Word_mk (Bank : Int) (At : Int) (Word : Int) : l07_Put.Word (l07_Put.mk Bank At Word) = Word := rfl
@[simp] theorem l07_Put.setBank_eq (x : l07_Put) (v : Int) : l07_Put.setBank x v = l07_Put.mk v (l07_Put.At x) (l07_Put.Word x) := rfl
@[simp] theorem l07_Put.setAt_eq (x : l07_Put) (v : Int) : l07_Put.setAt x v = l07_Put.mk (l07_Put.Bank x) v (l07_Put.Word x) := rfl
@[simp] theorem l07_Put.setWord_eq (x : l07_Put) (v : Int) : l07_Put.setWord x v = l07_Put.mk (l07_Put.Bank x) (l07_Put.At x) v := rfl
@[simp] theorem l07_Put.eta (x : l07_Put) : l07_Put.mk (l07_Put.Bank x) (l07_Put.At x) (l07_Put.Word x) = x := rfl

abbrev tsEvent : List Ty := [.int .i64, .int .i64, .int .i64]
abbrev tEvent : Ty := .st tsEvent
abbrev Event : Type := Int × Int × Int
def Event.mk (Kind : Int) (N : Int) (K : Int) : Event := (Kind, N, K)
def Event.Kind (x : Event) : Int := x.1
def Event.N (x : Event) : Int := x.2.1
def Event.K (x : Event) : Int := x.2.2
def Event.setKind (x : Event) (v : Int) : Event := (v, x.2.1, x.2.2)
def Event.setN (x : Event) (v : Int) : Event := (x.1, v, x.2.2)
def Event.setK (x : Event) (v : Int) : Event := (x.1, x.2.1, v)
@[simp] theorem Event.Kind_mk (Kind : Int) (N : Int) (K : Int) : Event.Kind (Event.mk Kind N K) = Kind := rfl
@[simp] theorem Event.N_mk (Kind : Int) (N : Int) (K : Int) : Event.N (Event.mk Kind N K) = N := rfl
@[simp] theorem Event.K_mk (Kind : Int) (N : Int) (K : Int) : Event.K (Event.mk Kind N K) = K := rfl
@[simp] theorem Event.setKind_eq (x : Event) (v : Int) : Event.setKind x v = Event.mk v (Event.N x) (Event.K x) := rfl
@[simp] theorem Event.setN_eq (x : Event) (v : Int) : Event.setN x v = Event.mk (Event.Kind x) v (Event.K x) := rfl
@[simp] theorem Event.setK_eq (x : Event) (v : Int) : Event.setK x v = Event.mk (Event.Kind x) (Event.N x) v := rfl
@[simp] theorem Event.eta (x : Event) : Event.mk (Event.Kind x) (Event.N x) (Event.K x) = x := rfl

abbrev tsWant : List Ty := [.int .i64, .int .i64, .int .u32, .int .u32]
abbrev tWant : Ty := .st tsWant
abbrev Want : Type := Int × Int × Int × Int
def Want.mk (Kind : Int) (At : Int) (Val : Int) (Old : Int) : Want := (Kind, At, Val, Old)
def Want.Kind (x : Want) : Int := x.1
def Want.At (x : Want) : Int := x.2.1
def Want.Val (x : Want) : Int := x.2.2.1
def Want.Old (x : Want) : Int := x.2.2.2
def Want.setKind (x : Want) (v : Int) : Want := (v, x.2.1, x.2.2.1, x.2.2.2)
def Want.setAt (x : Want) (v : Int) : Want := (x.1, v, x.2.2.1, x.2.2.2)
def Want.setVal (x : Want) (v : Int) : Want := (x.1, x.2.1, v, x.2.2.2)
def Want.setOld (x : Want) (v : Int) : Want := (x.1, x.2.1, x.2.2.1, v)
@[simp] theorem Want.Kind_mk (Kind : Int) (At : Int) (Val : Int) (Old : Int) : Want.Kind (Want.mk Kind At Val Old) = Kind := rfl
@[simp] theorem Want.At_mk (Kind : Int) (At : Int) (Val : Int) (Old : Int) : Want.At (Want.mk Kind At Val Old) = At := rfl
@[simp] theorem Want.Val_mk (Kind : Int) (At : Int) (Val : Int) (Old : Int) : Want.Val (Want.mk Kind At Val Old) = Val := rfl
@[simp] theorem Want.Old_mk (Kind : Int) (At : Int) (Val : Int) (Old : Int) : Want.Old (Want.mk Kind At Val Old) = Old := rfl
@[simp] theorem Want.setKind_eq (x : Want) (v : Int) : Want.setKind x v = Want.mk v (Want.At x) (Want.Val x) (Want.Old x) := rfl
@[simp] theorem Want.setAt_eq (x : Want) (v : Int) : Want.setAt x v = Want.mk (Want.Kind x) v (Want.Val x) (Want.Old x) := rfl
@[simp] theorem Want.setVal_eq (x : Want) (v : Int) : Want.setVal x v = Want.mk (Want.Kind x) (Want.At x) v (Want.Old x) := rfl
@[simp] theorem Want.setOld_eq (x : Want) (v : Int) : Want.setOld x v = Want.mk (Want.Kind x) (Want.At x) (Want.Val x) v := rfl
@[simp] theorem Want.eta (x : Want) : Want.mk (Want.Kind x) (Want.At x) (Want.Val x) (Want.Old x) = x := rfl

abbrev tsDeed : List Ty := [.int .i64, .int .i64, .int .i64, .int .u32, .int .u32]
abbrev tDeed : Ty := .st tsDeed
abbrev Deed : Type := Int × Int × Int × Int × Int
def Deed.mk (Core : Int) (Kind : Int) (At : Int) (Was : Int) (Val : Int) : Deed := (Core, Kind, At, Was, Val)
def Deed.Core (x : Deed) : Int := x.1
def Deed.Kind (x : Deed) : Int := x.2.1
def Deed.At (x : Deed) : Int := x.2.2.1
def Deed.Was (x : Deed) : Int := x.2.2.2.1
def Deed.Val (x : Deed) : Int := x.2.2.2.2
def Deed.setCore (x : Deed) (v : Int) : Deed := (v, x.2.1, x.2.2.1, x.2.2.2.1, x.2.2.2.2)
def Deed.setKind (x : Deed) (v : Int) : Deed := (x.1, v, x.2.2.1, x.2.2.2.1, x.2.2.2.2)
def Deed.setAt (x : Deed) (v : Int) : Deed := (x.1, x.2.1, v, x.2.2.2.1, x.2.2.2.2)
def Deed.setWas (x : Deed) (v : Int) : Deed := (x.1, x.2.1, x.2.2.1, v, x.2.2.2.2)
def Deed.setVal (x : Deed) (v : Int) : Deed := (x.1, x.2.1, x.2.2.1, x.2.2.2.1, v)
@[simp] theorem Deed.Core_mk (Core : Int) (Kind : Int) (At : Int) (Was : Int) (Val : Int) : Deed.Core (Deed.mk Core Kind At Was Val) = Core := rfl
@[simp] theorem Deed.Kind_mk (Core : Int) (Kind : Int) (At : Int) (Was : Int) (Val : Int) : Deed.Kind (Deed.mk Core Kind At Was Val) = Kind := rfl
@[simp] theorem Deed.At_mk (Core : Int) (Kind : Int) (At : Int) (Was : Int) (Val : Int) : Deed.At (Deed.mk Core Kind At Was Val) = At := rfl
@[simp] theorem Deed.Was_mk (Core : Int) (Kind : Int) (At : Int) (Was : Int) (Val : Int) : Deed.Was (Deed.mk Core Kind At Was Val) = Was := rfl
@[simp] theorem Deed.Val_mk (Core : Int) (Kind : Int) (At : Int) (Was : Int) (Val : Int) : Deed.Val (Deed.mk Core Kind At Was Val) = Val := rfl
@[simp] theorem Deed.setCore_eq (x : Deed) (v : Int) : Deed.setCore x v = Deed.mk v (Deed.Kind x) (Deed.At x) (Deed.Was x) (Deed.Val x) := rfl
@[simp] theorem Deed.setKind_eq (x : Deed) (v : Int) : Deed.setKind x v = Deed.mk (Deed.Core x) v (Deed.At x) (Deed.Was x) (Deed.Val x) := rfl
@[simp] theorem Deed.setAt_eq (x : Deed) (v : Int) : Deed.setAt x v = Deed.mk (Deed.Core x) (Deed.Kind x) v (Deed.Was x) (Deed.Val x) := rfl
@[simp] theorem Deed.setWas_eq (x : Deed) (v : Int) : Deed.setWas x v = Deed.mk (Deed.Core x) (Deed.Kind x) (Deed.At x) v (Deed.Val x) := rfl
@[simp] theorem Deed.setVal_eq (x : Deed) (v : Int) : Deed.setVal x v = Deed.mk (Deed.Core x) (Deed.Kind x) (Deed.At x) (Deed.Was x) v := rfl
@[simp] theorem Deed.eta (x : Deed) : Deed.mk (Deed.Core x) (Deed.Kind x) (Deed.At x) (Deed.Was x) (Deed.Val x) = x := rfl

abbrev tsIns : List Ty := [.int .i64, .int .i64, .int .i64, .int .i64, .int .u32]
abbrev tIns : Ty := .st tsIns
abbrev Ins : Type := Int × Int × Int × Int × Int
def Ins.mk (Op : Int) (A : Int) (B : Int) (C : Int) (K : Int) : Ins := (Op, A, B, C, K)
def Ins.Op (x : Ins) : Int := x.1
def Ins.A (x : Ins) : Int := x.2.1
def Ins.B (x : Ins) : Int := x.2.2.1
def Ins.C (x : Ins) : Int := x.2.2.2.1
def Ins.K (x : Ins) : Int := x.2.2.2.2
def Ins.setOp (x : Ins) (v : Int) : Ins := (v, x.2.1, x.2.2.1, x.2.2.2.1, x.2.2.2.2)
def Ins.setA (x : Ins) (v : Int) : Ins := (x.1, v, x.2.2.1, x.2.2.2.1, x.2.2.2.2)
def Ins.setB (x : Ins) (v : Int) : Ins := (x.1, x.2.1, v, x.2.2.2.1, x.2.2.2.2)
def Ins.setC (x : Ins) (v : Int) : Ins := (x.1, x.2.1, x.2.2.1, v, x.2.2.2.2)
def Ins.setK (x : Ins) (v : Int) : Ins := (x.1, x.2.1, x.2.2.1, x.2.2.2.1, v)
@[simp] theorem Ins.Op_mk (Op : Int) (A : Int) (B : Int) (C : Int) (K : Int) : Ins.Op (Ins.mk Op A B C K) = Op := rfl
@[simp] theorem Ins.A_mk (Op : Int) (A : Int) (B : Int) (C : Int) (K : Int) : Ins.A (Ins.mk Op A B C K) = A := rfl
@[simp] theorem Ins.B_mk (Op : Int) (A : Int) (B : Int) (C : Int) (K : Int) : Ins.B (Ins.mk Op A B C K) = B := rfl
@[simp] theorem Ins.C_mk (Op : Int) (A : Int) (B : Int) (C : Int) (K : Int) : Ins.C (Ins.mk Op A B C K) = C := rfl
@[simp] theorem Ins.K_mk (Op : Int) (A : Int) (B : Int) (C : Int) (K : Int) : Ins.K (Ins.mk Op A B C K) = K := rfl
@[simp] theorem Ins.setOp_eq (x : Ins) (v : Int) : Ins.setOp x v = Ins.mk v (Ins.A x) (Ins.B x) (Ins.C x) (Ins.K x) := rfl
@[simp] theorem Ins.setA_eq (x : Ins) (v : Int) : Ins.setA x v = Ins.mk (Ins.Op x) v (Ins.B x) (Ins.C x) (Ins.K x) := rfl
@[simp] theorem Ins.setB_eq (x : Ins) (v : Int) : Ins.setB x v = Ins.mk (Ins.Op x) (Ins.A x) v (Ins.C x) (Ins.K x) := rfl
@[simp] theorem Ins.setC_eq (x : Ins) (v : Int) : Ins.setC x v = Ins.mk (Ins.Op x) (Ins.A x) (Ins.B x) v (Ins.K x) := rfl
@[simp] theorem Ins.setK_eq (x : Ins) (v : Int) : Ins.setK x v = Ins.mk (Ins.Op x) (Ins.A x) (Ins.B x) (Ins.C x) v := rfl
@[simp] theorem Ins.eta (x : Ins) : Ins.mk (Ins.Op x) (Ins.A x) (Ins.B x) (Ins.C x) (Ins.K x) = x := rfl

abbrev tsruntime_errorAddressString : List Ty := [.str, .int .u64]
abbrev truntime_errorAddressString : Ty := .st tsruntime_errorAddressString
abbrev runtime_errorAddressString : Type := (List Int) × Int
def runtime_errorAddressString.mk (msg : List Int) (addr : Int) : runtime_errorAddressString := (msg, addr)
def runtime_errorAddressString.msg (x : runtime_errorAddressString) : List Int := x.1
def runtime_errorAddressString.addr (x : runtime_errorAddressString) : Int := x.2
def runtime_errorAddressString.setmsg (x : runtime_errorAddressString) (v : List Int) : runtime_errorAddressString := (v, x.2)
def runtime_errorAddressString.setaddr (x : runtime_errorAddressString) (v : Int) : runtime_errorAddressString := (x.1, v)
@[simp] theorem runtime_errorAddressString.msg_mk (msg : List Int) (addr : Int) : runtime_errorAddressString.msg (runtime_errorAddressString.mk msg addr) = msg := rfl
@[simp] theorem runtime_errorAddressString.addr_mk (msg : List Int) (addr : Int) : runtime_errorAddressString.addr (runtime_errorAddressString.mk msg addr) = addr := rfl
@[simp] theorem runtime_errorAddressString.setmsg_eq (x : runtime_errorAddressString) (v : List Int) : runtime_errorAddressString.setmsg x v = runtime_errorAddressString.mk v (runtime_errorAddressString.addr x) := rfl
@[simp] theorem runtime_errorAddressString.setaddr_eq (x : runtime_errorAddressString) (v : Int) : runtime_errorAddressString.setaddr x v = runtime_errorAddressString.mk (runtime_errorAddressString.msg x) v := rfl
@[simp] theorem runtime_errorAddressString.eta (x : runtime_errorAddressString) : runtime_errorAddressString.mk (runtime_errorAddressString.msg x) (runtime_errorAddressString.addr x) = x := rfl

abbrev tsruntime_boundsError : List Ty := [.int .i64, .int .i64, .bool, .int .u8]
abbrev truntime_boundsError : Ty := .st tsruntime_boundsError
abbrev runtime_boundsError : Type := Int × Int × Bool × Int
def runtime_boundsError.mk (x : Int) (y : Int) (signed : Bool) (code : Int) : runtime_boundsError := (x, y, signed, code)
def runtime_boundsError.x (x : runtime_boundsError) : Int := x.1
def runtime_boundsError.y (x : runtime_boundsError) : Int := x.2.1
def runtime_boundsError.signed (x : runtime_boundsError) : Bool := x.2.2.1
def runtime_boundsError.code (x : runtime_boundsError) : Int := x.2.2.2
def runtime_boundsError.setx (x : runtime_boundsError) (v : Int) : runtime_boundsError := (v, x.2.1, x.2.2.1, x.2.2.2)
def runtime_boundsError.sety (x : runtime_boundsError) (v : Int) : runtime_boundsError := (x.1, v, x.2.2.1, x.2.2.2)
def runtime_boundsError.setsigned (x : runtime_boundsError) (v : Bool) : runtime_boundsError := (x.1, x.2.1, v, x.2.2.2)
def runtime_boundsError.setcode (x : runtime_boundsError) (v : Int) : runtime_boundsError := (x.1, x.2.1, x.2.2.1, v)
@[simp] theorem runtime_boundsError.x_mk (x : Int) (y : Int) (signed : Bool) (code : Int) : runtime_boundsError.x (runtime_boundsError.mk x y signed code) = x := rfl
@[simp] theorem runtime_boundsError.y_mk (x : Int) (y : Int) (signed : Bool) (code : Int) : runtime_boundsError.y (runtime_boundsError.mk x y signed code) = y := rfl
@[simp] theorem runtime_boundsError.signed_mk (x : Int) (y : Int) (signed : Bool) (code : Int) : runtime_boundsError.signed (runtime_boundsError.mk x y signed code) = signed := rfl
@[simp] theorem runtime_boundsError.code_mk (x : Int) (y : Int) (signed : Bool) (code : Int) : runtime_boundsError.code (runtime_boundsError.mk x y signed code) = code := rfl
@[simp] theorem runtime_boundsError.setx_eq (x : runtime_boundsError) (v : Int) : runtime_boundsError.setx x v = runtime_boundsError.mk v (runtime_boundsError.y x) (runtime_boundsError.signed x) (runtime_boundsError.code x) := rfl
@[simp] theorem runtime_boundsError.sety_eq (x : runtime_boundsError) (v : Int) : runtime_boundsError.sety x v = runtime_boundsError.mk (runtime_boundsError.x x) v (runtime_boundsError.signed x) (runtime_boundsError.code x) := rfl
@[simp] theorem runtime_boundsError.setsigned_eq (x : runtime_boundsError) (v : Bool) : runtime_boundsError.setsigned x v = runtime_boundsError.mk (runtime_boundsError.x x) (runtime_boundsError.y x) v (runtime_boundsError.code x) := rfl
@[simp] theorem runtime_boundsError.setcode_eq (x : runtime_boundsError) (v : Int) : runtime_boundsError.setcode x v = runtime_boundsError.mk (runtime_boundsError.x x) (runtime_boundsError.y x) (runtime_boundsError.signed x) v := rfl
@[simp] theorem runtime_boundsError.eta (x : runtime_boundsError) : runtime_boundsError.mk (runtime_boundsError.x x) (runtime_boundsError.y x) (runtime_boundsError.signed x) (runtime_boundsError.code x) = x := rfl

abbrev tsCore : List Ty := [.arr 8 (.int .u32), .int .i64, .bool]
abbrev tCore : Ty := .st tsCore
abbrev Core : Type := (List Int) × Int × Bool
def Core.mk (Regs : List Int) (PC : Int) (Halted : Bool) : Core := (Regs, PC, Halted)
def Core.Regs (x : Core) : List Int := x.1
def Core.PC (x : Core) : Int := x.2.1
def Core.Halted (x : Core) : Bool := x.2.2
def Core.setRegs (x : Core) (v : List Int) : Core := (v, x.2.1, x.2.2)
def Core.setPC (x : Core) (v : Int) : Core := (x.1, v, x.2.2)
def Core.setHalted (x : Core) (v : Bool) : Core := (x.1, x.2.1, v)
@[simp] theorem Core.Regs_mk (Regs : List Int) (PC : Int) (Halted : Bool) : Core.Regs (Core.mk Regs PC Halted) = Regs := rfl
@[simp] theorem Core.PC_mk (Regs : List Int) (PC : Int) (Halted : Bool) : Core.PC (Core.mk Regs PC Halted) = PC := rfl
@[simp] theorem Core.Halted_mk (Regs : List Int) (PC : Int) (Halted : Bool) : Core.Halted (Core.mk Regs PC Halted) = Halted := rfl
@[simp] theorem Core.setRegs_eq (x : Core) (v : List Int) : Core.setRegs x v = Core.mk v (Core.PC x) (Core.Halted x) := rfl
@[simp] theorem Core.setPC_eq (x : Core) (v : Int) : Core.setPC x v = Core.mk (Core.Regs x) v (Core.Halted x) := rfl
@[simp] theorem Core.setHalted_eq (x : Core) (v : Bool) : Core.setHalted x v = Core.mk (Core.Regs x) (Core.PC x) v := rfl
@[simp] theorem Core.eta (x : Core) : Core.mk (Core.Regs x) (Core.PC x) (Core.Halted x) = x := rfl

abbrev tsBanks : List Ty := [.sl (.sl (.int .u32)), .sl (.int .u32), .int .i64]
abbrev tBanks : Ty := .st tsBanks
abbrev Banks : Type := (List (List Int)) × (List Int) × Int
def Banks.mk (Rows : List (List Int)) (Par : List Int) (Lost : Int) : Banks := (Rows, Par, Lost)
def Banks.Rows (x : Banks) : List (List Int) := x.1
def Banks.Par (x : Banks) : List Int := x.2.1
def Banks.Lost (x : Banks) : Int := x.2.2
def Banks.setRows (x : Banks) (v : List (List Int)) : Banks := (v, x.2.1, x.2.2)
def Banks.setPar (x : Banks) (v : List Int) : Banks := (x.1, v, x.2.2)
def Banks.setLost (x : Banks) (v : Int) : Banks := (x.1, x.2.1, v)
@[simp] theorem Banks.Rows_mk (Rows : List (List Int)) (Par : List Int) (Lost : Int) : Banks.Rows (Banks.mk Rows Par Lost) = Rows := rfl
@[simp] theorem Banks.Par_mk (Rows : List (List Int)) (Par : List Int) (Lost : Int) : Banks.Par (Banks.mk Rows Par Lost) = Par := rfl
@[simp] theorem Banks.Lost_mk (Rows : List (List Int)) (Par : List Int) (Lost : Int) : Banks.Lost (Banks.mk Rows Par Lost) = Lost := rfl
@[simp] theorem Banks.setRows_eq (x : Banks) (v : List (List Int)) : Banks.setRows x v = Banks.mk v (Banks.Par x) (Banks.Lost x) := rfl
@[simp] theorem Banks.setPar_eq (x : Banks) (v : List Int) : Banks.setPar x v = Banks.mk (Banks.Rows x) v (Banks.Lost x) := rfl
@[simp] theorem Banks.setLost_eq (x : Banks) (v : Int) : Banks.setLost x v = Banks.mk (Banks.Rows x) (Banks.Par x) v := rfl
@[simp] theorem Banks.eta (x : Banks) : Banks.mk (Banks.Rows x) (Banks.Par x) (Banks.Lost x) = x := rfl

def tys : List Ty := [.no, .no, .int .i64, .int .i64, .bool, .int .u8, .int .u8, truntime_boundsError, truntime_boundsError, .str, .str, .str, .int .u64, truntime_errorAddressString, truntime_errorAddressString, .no, .no, .no, .no, .no, .no, .int .i32, .sl tEvent, tEvent, tEvent, .no, .arr 9 (.int .i64), .no, .no, .no, .no, .no, .no, .no, .no, .sl (.sl (.int .u32)), .sl (.int .u32), tBanks, tBanks, .int .u32, .no, .int .i64, .no, .no, .no, .no, .no, .no, .no, .no, .no, .no, .no, .no, .no, .no, .no, .no, .sl tl07_Put, tl07_Put, tl07_Put, .no, .no, .sl tDeed, .sl .bool, .no, .no, .no, .no, .no, .no, .no, .sl (.int .i64), .no, .no, .no, .no, .no, tDeed, tDeed, .no, .no, .sl tIns, .arr 8 (.int .u32), tCore, tCore, .no, tWant, tWant, .no, .no, .no, .no, .no, .no, .no, .no, .no, .no, .no, .no, .no, .no, .no, .no, .no, .no, .no, .no, .no, .no, .no, .no, .no, .no, .no, .no, .no, tIns, tIns, .no, .no, .no, .no, .int .u64, .no, .no, .no, .no, .no, .no, .sl (.sl tDeed), .no, .no, .no, .int .u64, .no, .no, .no, .no, .no, .no, .no, .no, .no, .no, .no, .no, .no, .no, .no, .no, .no, .no, .no, .no, .int .u8, .int .u8, .no, .no, .int .i32, .int .i32, .no, .no, .no]
noncomputable def cx : Cx := { P := Try.prog, ty := tys, own := [], inl := [36, 70, 78, 79, 84, 86, 94, 98], keepL := [], absL := [36, 70, 73, 78], heads := [(12, [(11, 44533518994187659340386597277597261906317061, ⟨13, 0, mkSlots 147 0 [(0, .d (.sl tIns) (.v 0)), (2, .d (.sl (.int .u32)) (.v 2)), (8, .d .bool (.c (.bool false))), (9, .p tCore tCore 0 []), (10, .d (.int .i64) (.v 10)), (11, .d (.int .i64) (.v 11))], [.box tCore (.d tCore (.v 12))]⟩),
    (18, 44533518994187659340386597277597261906378501, ⟨20, 0, mkSlots 147 0 [(0, .d (.sl tIns) (.v 0)), (2, .d (.sl (.int .u32)) (.v 2)), (8, .d .bool (.c (.bool false))), (9, .p tCore tCore 0 []), (10, .d (.int .i64) (.v 10)), (11, .d (.int .i64) (.v 11)), (12, .p tWant tWant 1 []), (13, .p tCore tCore 2 []), (14, .d (.int .i64) (.v 18)), (15, .d (.int .i64) (.v 19))], [.box tCore (.d tCore (.v 12)), .box tWant (.d tWant (.v 14)), .box tCore (.d tCore (.v 16))]⟩)]),
  (13, [(17, 40562343327224770087344704381964, ⟨18, 0, mkSlots 106 0 [(2, .d (.int .u32) (.v 2)), (3, .d (.int .u32) (.v 3)), (10, .d .bool (.c (.bool false))), (13, .p tCore tCore 0 []), (14, .p tCore tCore 1 []), (15, .d (.int .i64) (.v 17))], [.box tCore (.d tCore (.v 13)), .box tCore (.d tCore (.v 14))]⟩)])] }
theorem tyOk : TysOk cx := chkTys_ok (by kernel_rfl)
theorem mixed : Try.prog.follows .mixedOrders = true := by kernel_rfl
def noC : FuncId → List D → Option (List D) := fun _ _ => none
theorem noC_ok : CallsOk cx noC := fun _ _ _ _ _ _ _ h => by cases h
theorem call_now {f : FuncId} {ds rs : List D} (k d : Nat) (h : callF cx k 12 noC d f ds = some rs) : callL cx 12 noC f ds = some rs := (callL_some cx 12 noC).2 ⟨k, d, h⟩

/-! 89: backstay/word.Place -/
noncomputable def word_Place (p0 : Int) (p1 : Int) : Option Int :=
  if decide (p1 < (1 : Int)) then
    some ((0 : Int))
  else
    (remO (wu64 p0) (wu64 p1)).bind fun v5 =>
    some ((w64 v5))
noncomputable def F_word_Place : FnT := ⟨[.int .u32, .int .i64], [.int .i64], fun x => word_Place x.1 x.2⟩
noncomputable def A_word_Place : TA :=
 .prim (.bin .lss) [.v 1, .c (.int .i64 1)] <|
 .ite (.v 2) (
  .jmp 0 false [.c (.int .i64 0)]) (
  .prim (.conv .u64) [.v 0] <|
  .prim (.conv .u64) [.v 1] <|
  .prim (.bin .rem) [.v 3, .v 4] <|
  .prim (.conv .i64) [.v 5] <|
  .jmp 0 false [.v 6])
theorem a_word_Place : treeOf cx 12 89 = some A_word_Place.erase := by kernel_rfl
theorem k_word_Place : FnOk cx 12 noC 89 F_word_Place := fn_ok (t := A_word_Place) a_word_Place (fun _ => rfl) (ok_of [] (by kernel_rfl) .nil) (fun x => by kernel_rfl)

/-! 90: backstay/backstayref03.Place -/
noncomputable def r03_Place (p0 : Int) (p1 : Int) : Option Int :=
  if decide (p1 < (1 : Int)) then
    some ((0 : Int))
  else
    (remO (w64 p0) p1).bind fun v4 =>
    some (v4)
noncomputable def F_r03_Place : FnT := ⟨[.int .u32, .int .i64], [.int .i64], fun x => r03_Place x.1 x.2⟩
noncomputable def A_r03_Place : TA :=
 .prim (.bin .lss) [.v 1, .c (.int .i64 1)] <|
 .ite (.v 2) (
  .jmp 0 false [.c (.int .i64 0)]) (
  .prim (.conv .i64) [.v 0] <|
  .prim (.bin .rem) [.v 3, .v 1] <|
  .jmp 0 false [.v 4])
theorem a_r03_Place : treeOf cx 12 90 = some A_r03_Place.erase := by kernel_rfl
theorem k_r03_Place : FnOk cx 12 noC 90 F_r03_Place := fn_ok (t := A_r03_Place) a_r03_Place (fun _ => rfl) (ok_of [] (by kernel_rfl) .nil) (fun x => by kernel_rfl)

/-! 103: backstay/word.truth -/
def word_truth (p0 : Bool) : Int :=
  bif p0 then (1 : Int) else (0 : Int)
def F_word_truth : PnT := ⟨[.bool], [.int .u32], fun x => word_truth x⟩
def A_word_truth : TA :=
 .ite (.v 0) (
  .jmp 0 false [.c (.int .u32 1)]) (
  .jmp 0 false [.c (.int .u32 0)])
theorem a_word_truth : treeOf cx 12 103 = some A_word_truth.erase := by kernel_rfl
theorem k_word_truth : FnOk cx 12 noC 103 F_word_truth.fn := pn_ok (t := A_word_truth) a_word_truth (fun _ => rfl) (ok_of [] (by kernel_rfl) .nil) (fun x => by kernel_rfl)

/-! 104: backstay/backstayref01.bits -/
noncomputable def r01_bits_L1 (x2 : Bool) (s : (Int × Int × Int × Int × Int)) : Option ((Int × Int × Int × Int × Int) ⊕ Int) :=
  if decide (s.2.2.2.2 < (32 : Int)) then
    (remO s.1 (2 : Int)).bind fun v9 =>
    let v10 : Bool := decide (v9 = (1 : Int))
    (remO s.2.1 (2 : Int)).bind fun v11 =>
    let v12 : Bool := decide (v11 = (1 : Int))
    (quoO .u32 s.1 (2 : Int)).bind fun v15 =>
    (quoO .u32 s.2.1 (2 : Int)).bind fun v16 =>
    some (Sum.inl (v15, v16, bif bif x2 then bif v10 then v12 || ((!x2) && (!decide (v10 = v12))) else (!x2) && (!decide (v10 = v12)) else (!x2) && (!decide (v10 = v12)) then wu32 (s.2.2.1 + s.2.2.2.1) else s.2.2.1, wu32 (s.2.2.2.1 * (2 : Int)), w64 (s.2.2.2.2 + (1 : Int))))
  else
    some (Sum.inr (s.2.2.1))
noncomputable def r01_bits (p0 : Int) (p1 : Int) (p2 : Bool) : Option Int :=
  (
    loopD (r01_bits_L1 p2) (p0, p1, (0 : Int), (1 : Int), (0 : Int)) : Option Int).bind fun v3 =>
  some (v3)
noncomputable def F_r01_bits : FnT := ⟨[.int .u32, .int .u32, .bool], [.int .u32], fun x => r01_bits x.1 x.2.1 x.2.2⟩
noncomputable def A_r01_bits : TA :=
 .sub0 [.int .u32] (
  .loop [.int .u32, .int .u32, .int .u32, .int .u32, .int .i64] [.v 0, .v 1, .c (.int .u32 0), .c (.int .u32 1), .c (.int .i64 0)] (
   .prim (.bin .lss) [.v 7, .c (.int .i64 32)] <|
   .ite (.v 8) (
    .prim (.bin .rem) [.v 3, .c (.int .u32 2)] <|
    .prim (.bin .eql) [.v 9, .c (.int .u32 1)] <|
    .prim (.bin .rem) [.v 4, .c (.int .u32 2)] <|
    .prim (.bin .eql) [.v 11, .c (.int .u32 1)] <|
    .subp [.bool] (
     .ite (.v 2) (
      .ite (.v 10) (
       .ite (.v 12) (
        .jmp 0 false [.c (.bool true)]) (
        .prim (.un .not) [.v 2] <|
        .ite (.v 13) (
         .prim (.bin .neq) [.v 10, .v 12] <|
         .jmp 0 false [.v 14]) (
         .jmp 0 false [.c (.bool false)]))) (
       .prim (.un .not) [.v 2] <|
       .ite (.v 13) (
        .prim (.bin .neq) [.v 10, .v 12] <|
        .jmp 0 false [.v 14]) (
        .jmp 0 false [.c (.bool false)]))) (
      .prim (.un .not) [.v 2] <|
      .ite (.v 13) (
       .prim (.bin .neq) [.v 10, .v 12] <|
       .jmp 0 false [.v 14]) (
       .jmp 0 false [.c (.bool false)]))) 1 <|
    .subp [.int .u32] (
     .ite (.v 13) (
      .prim (.bin .add) [.v 5, .v 6] <|
      .jmp 0 false [.v 14]) (
      .jmp 0 false [.v 5])) 1 <|
    .prim (.bin .quo) [.v 3, .c (.int .u32 2)] <|
    .prim (.bin .quo) [.v 4, .c (.int .u32 2)] <|
    .prim (.bin .mul) [.v 6, .c (.int .u32 2)] <|
    .prim (.bin .add) [.v 7, .c (.int .i64 1)] <|
    .jmp 0 true [.v 15, .v 16, .v 14, .v 17, .v 18]) (
    .jmp 1 false [.v 5]))) 1 <|
 .jmp 0 false [.v 3]
theorem a_r01_bits : treeOf cx 12 104 = some A_r01_bits.erase := by kernel_rfl
theorem k_r01_bits : FnOk cx 12 noC 104 F_r01_bits := fn_ok (t := A_r01_bits) a_r01_bits (fun _ => rfl) (ok_of [] (by kernel_rfl) .nil) (fun x => by kernel_rfl)

/-! 110: backstay/isa.register -/
def isa_register (p0 : Int) (p1 : Bool) : Bool :=
  bif !p1 then decide (p0 = (0 : Int)) else (decide ((0 : Int) ≤ p0)) && (decide (p0 < (8 : Int)))
def F_isa_register : PnT := ⟨[.int .i64, .bool], [.bool], fun x => isa_register x.1 x.2⟩
def A_isa_register : TA :=
 .prim (.un .not) [.v 1] <|
 .ite (.v 2) (
  .prim (.bin .eql) [.v 0, .c (.int .i64 0)] <|
  .jmp 0 false [.v 3]) (
  .subp [.bool] (
   .prim (.bin .geq) [.v 0, .c (.int .i64 0)] <|
   .ite (.v 3) (
    .prim (.bin .lss) [.v 0, .c (.int .i64 8)] <|
    .jmp 0 false [.v 4]) (
    .jmp 0 false [.c (.bool false)])) 1 <|
  .jmp 0 false [.v 3])
theorem a_isa_register : treeOf cx 12 110 = some A_isa_register.erase := by kernel_rfl
theorem k_isa_register : FnOk cx 12 noC 110 F_isa_register.fn := pn_ok (t := A_isa_register) a_isa_register (fun _ => rfl) (ok_of [] (by kernel_rfl) .nil) (fun x => by kernel_rfl)

/-! 111: backstay/backstayref02.reg -/
def r02_reg (p0 : Int) : Bool :=
  (decide ((0 : Int) ≤ p0)) && (decide (p0 < (8 : Int)))
def F_r02_reg : PnT := ⟨[.int .i64], [.bool], fun x => r02_reg x⟩
def A_r02_reg : TA :=
 .subp [.bool] (
  .prim (.bin .geq) [.v 0, .c (.int .i64 0)] <|
  .ite (.v 1) (
   .prim (.bin .lss) [.v 0, .c (.int .i64 8)] <|
   .jmp 0 false [.v 2]) (
   .jmp 0 false [.c (.bool false)])) 1 <|
 .jmp 0 false [.v 1]
theorem a_r02_reg : treeOf cx 12 111 = some A_r02_reg.erase := by kernel_rfl
theorem k_r02_reg : FnOk cx 12 noC 111 F_r02_reg.fn := pn_ok (t := A_r02_reg) a_r02_reg (fun _ => rfl) (ok_of [] (by kernel_rfl) .nil) (fun x => by kernel_rfl)

/-! 112: backstay/backstayref02.goal -/
def r02_goal (p0 : Int) (p1 : Int) : Bool :=
  (decide ((0 : Int) < p1)) && (decide ((w64 p0) < p1))
def F_r02_goal : PnT := ⟨[.int .u32, .int .i64], [.bool], fun x => r02_goal x.1 x.2⟩
def A_r02_goal : TA :=
 .subp [.bool] (
  .prim (.bin .gtr) [.v 1, .c (.int .i64 0)] <|
  .ite (.v 2) (
   .prim (.conv .i64) [.v 0] <|
   .prim (.bin .lss) [.v 3, .v 1] <|
   .jmp 0 false [.v 4]) (
   .jmp 0 false [.c (.bool false)])) 1 <|
 .jmp 0 false [.v 2]
theorem a_r02_goal : treeOf cx 12 112 = some A_r02_goal.erase := by kernel_rfl
theorem k_r02_goal : FnOk cx 12 noC 112 F_r02_goal.fn := pn_ok (t := A_r02_goal) a_r02_goal (fun _ => rfl) (ok_of [] (by kernel_rfl) .nil) (fun x => by kernel_rfl)

/-! 113: backstay/isa.uses -/
def isa_uses (p0 : Int) : Int :=
  let v1 : Bool := decide (p0 = (1 : Int))
  let v3e : Bool := decide (p0 = (2 : Int))
  let v4e_e : Bool := decide (p0 = (3 : Int))
  let v5e_e_e : Bool := decide (p0 = (4 : Int))
  let v6e_e_e_e : Bool := decide (p0 = (5 : Int))
  let v7e_e_e_e_e : Bool := decide (p0 = (6 : Int))
  let v8e_e_e_e_e_e : Bool := decide (p0 = (7 : Int))
  let v9e_e_e_e_e_e_e : Bool := decide (p0 = (8 : Int))
  let v5ee : Bool := decide (p0 = (9 : Int))
  bif bif v1 then v1 else decide (p0 = (14 : Int)) then (9 : Int) else bif bif v3e then v3e else bif v4e_e then v4e_e else bif v5e_e_e then v5e_e_e else bif v6e_e_e_e then v6e_e_e_e else bif v7e_e_e_e_e then v7e_e_e_e_e else bif v8e_e_e_e_e_e then v8e_e_e_e_e_e else bif v9e_e_e_e_e_e_e then v9e_e_e_e_e_e_e else decide (p0 = (11 : Int)) then (7 : Int) else bif bif v5ee then v5ee else decide (p0 = (10 : Int)) then (3 : Int) else bif decide (p0 = (13 : Int)) then (8 : Int) else bif decide (p0 = (15 : Int)) then (1 : Int) else (0 : Int)
def F_isa_uses : PnT := ⟨[.int .i64], [.int .i64], fun x => isa_uses x⟩
def A_isa_uses : TA :=
 .prim (.bin .eql) [.v 0, .c (.int .i64 1)] <|
 .subp [.bool] (
  .ite (.v 1) (
   .jmp 0 false [.v 1]) (
   .prim (.bin .eql) [.v 0, .c (.int .i64 14)] <|
   .jmp 0 false [.v 2])) 1 <|
 .ite (.v 2) (
  .jmp 0 false [.c (.int .i64 9)]) (
  .prim (.bin .eql) [.v 0, .c (.int .i64 2)] <|
  .subp [.bool] (
   .ite (.v 3) (
    .jmp 0 false [.v 3]) (
    .prim (.bin .eql) [.v 0, .c (.int .i64 3)] <|
    .subp [.bool] (
     .ite (.v 4) (
      .jmp 0 false [.v 4]) (
      .prim (.bin .eql) [.v 0, .c (.int .i64 4)] <|
      .subp [.bool] (
       .ite (.v 5) (
        .jmp 0 false [.v 5]) (
        .prim (.bin .eql) [.v 0, .c (.int .i64 5)] <|
        .subp [.bool] (
         .ite (.v 6) (
          .jmp 0 false [.v 6]) (
          .prim (.bin .eql) [.v 0, .c (.int .i64 6)] <|
          .subp [.bool] (
           .ite (.v 7) (
            .jmp 0 false [.v 7]) (
            .prim (.bin .eql) [.v 0, .c (.int .i64 7)] <|
            .subp [.bool] (
             .ite (.v 8) (
              .jmp 0 false [.v 8]) (
              .prim (.bin .eql) [.v 0, .c (.int .i64 8)] <|
              .subp [.bool] (
               .ite (.v 9) (
                .jmp 0 false [.v 9]) (
                .prim (.bin .eql) [.v 0, .c (.int .i64 11)] <|
                .jmp 0 false [.v 10])) 1 <|
              .jmp 0 false [.v 10])) 1 <|
            .jmp 0 false [.v 9])) 1 <|
          .jmp 0 false [.v 8])) 1 <|
        .jmp 0 false [.v 7])) 1 <|
      .jmp 0 false [.v 6])) 1 <|
    .jmp 0 false [.v 5])) 1 <|
  .ite (.v 4) (
   .jmp 0 false [.c (.int .i64 7)]) (
   .prim (.bin .eql) [.v 0, .c (.int .i64 9)] <|
   .subp [.bool] (
    .ite (.v 5) (
     .jmp 0 false [.v 5]) (
     .prim (.bin .eql) [.v 0, .c (.int .i64 10)] <|
     .jmp 0 false [.v 6])) 1 <|
   .ite (.v 6) (
    .jmp 0 false [.c (.int .i64 3)]) (
    .prim (.bin .eql) [.v 0, .c (.int .i64 13)] <|
    .ite (.v 7) (
     .jmp 0 false [.c (.int .i64 8)]) (
     .prim (.bin .eql) [.v 0, .c (.int .i64 15)] <|
     .ite (.v 8) (
      .jmp 0 false [.c (.int .i64 1)]) (
      .jmp 0 false [.c (.int .i64 0)])))))
theorem a_isa_uses : treeOf cx 12 113 = some A_isa_uses.erase := by kernel_rfl
theorem k_isa_uses : FnOk cx 12 noC 113 F_isa_uses.fn := pn_ok (t := A_isa_uses) a_isa_uses (fun _ => rfl) (ok_of [] (by kernel_rfl) .nil) (fun x => by kernel_rfl)

/-! 91: backstay/word.Do -/
def word_Do (p0 : Int) (p1 : Int) (p2 : Int) : (Int × Bool) :=
  (bif decide (p0 = (2 : Int)) then wu32 (p1 + p2) else bif decide (p0 = (3 : Int)) then wu32 (p1 - p2) else bif decide (p0 = (4 : Int)) then wu32 (p1 * p2) else bif decide (p0 = (5 : Int)) then bAnd .u32 p1 p2 else bif decide (p0 = (6 : Int)) then bXor .u32 p1 p2 else bif decide (p0 = (7 : Int)) then word_truth (decide (p1 = p2)) else bif decide (p0 = (8 : Int)) then word_truth (decide (p1 < p2)) else (0 : Int), (decide (p0 = (2 : Int))) || ((decide (p0 = (3 : Int))) || ((decide (p0 = (4 : Int))) || ((decide (p0 = (5 : Int))) || ((decide (p0 = (6 : Int))) || ((decide (p0 = (7 : Int))) || ((decide (p0 = (8 : Int))) && true)))))))
def F_word_Do : PnT := ⟨[.int .i64, .int .u32, .int .u32], [.int .u32, .bool], fun x => word_Do x.1 x.2.1 x.2.2⟩
def A_word_Do : TA :=
 .prim (.bin .eql) [.v 0, .c (.int .i64 2)] <|
 .ite (.v 3) (
  .prim (.bin .add) [.v 1, .v 2] <|
  .jmp 0 false [.v 4, .c (.bool true)]) (
  .prim (.bin .eql) [.v 0, .c (.int .i64 3)] <|
  .ite (.v 4) (
   .prim (.bin .sub) [.v 1, .v 2] <|
   .jmp 0 false [.v 5, .c (.bool true)]) (
   .prim (.bin .eql) [.v 0, .c (.int .i64 4)] <|
   .ite (.v 5) (
    .prim (.bin .mul) [.v 1, .v 2] <|
    .jmp 0 false [.v 6, .c (.bool true)]) (
    .prim (.bin .eql) [.v 0, .c (.int .i64 5)] <|
    .ite (.v 6) (
     .prim (.bin .and) [.v 1, .v 2] <|
     .jmp 0 false [.v 7, .c (.bool true)]) (
     .prim (.bin .eql) [.v 0, .c (.int .i64 6)] <|
     .ite (.v 7) (
      .prim (.bin .xor) [.v 1, .v 2] <|
      .jmp 0 false [.v 8, .c (.bool true)]) (
      .prim (.bin .eql) [.v 0, .c (.int .i64 7)] <|
      .ite (.v 8) (
       .prim (.bin .eql) [.v 1, .v 2] <|
       .callp 103 F_word_truth [.v 9] 1 <|
       .jmp 0 false [.v 10, .c (.bool true)]) (
       .prim (.bin .eql) [.v 0, .c (.int .i64 8)] <|
       .ite (.v 9) (
        .prim (.bin .lss) [.v 1, .v 2] <|
        .callp 103 F_word_truth [.v 10] 1 <|
        .jmp 0 false [.v 11, .c (.bool true)]) (
        .jmp 0 false [.c (.int .u32 0), .c (.bool false)])))))))
theorem a_word_Do : treeOf cx 12 91 = some A_word_Do.erase := by kernel_rfl
theorem k_word_Do : FnOk cx 12 noC 91 F_word_Do.fn := pn_ok (t := A_word_Do) a_word_Do (fun _ => rfl) (ok_of [(103, F_word_truth.fn), (103, F_word_truth.fn)] (by kernel_rfl) (.cons k_word_truth (.cons k_word_truth .nil))) (fun x => by kernel_rfl)

/-! 92: backstay/backstayref01.Do -/
noncomputable def r01_Do (p0 : Int) (p1 : Int) (p2 : Int) : Option (Int × Bool) :=
  let v3 : Int := wu64 p1
  let v4 : Int := wu64 p2
  if decide (p0 = (2 : Int)) then
    (remO (wu64 (v3 + v4)) (4294967296 : Int)).bind fun v7 =>
    some ((wu32 v7, true))
  else
    if decide (p0 = (3 : Int)) then
      (remO (wu64 ((wu64 (v3 + (4294967296 : Int))) - v4)) (4294967296 : Int)).bind fun v9 =>
      some ((wu32 v9, true))
    else
      if decide (p0 = (4 : Int)) then
        (remO (wu64 (v3 * v4)) (4294967296 : Int)).bind fun v9 =>
        some ((wu32 v9, true))
      else
        if decide (p0 = (5 : Int)) then
          (r01_bits p1 p2 true).bind fun v9 =>
          some ((v9, true))
        else
          if decide (p0 = (6 : Int)) then
            (r01_bits p1 p2 false).bind fun v10 =>
            some ((v10, true))
          else
            if bif decide (p0 = (7 : Int)) then (decide (p1 = p2)) || ((decide (p0 = (8 : Int))) && (decide (p1 < p2))) else (decide (p0 = (8 : Int))) && (decide (p1 < p2)) then
              some (((1 : Int), true))
            else
              some (((0 : Int), (decide (p0 = (7 : Int))) || (decide (p0 = (8 : Int)))))
noncomputable def F_r01_Do : FnT := ⟨[.int .i64, .int .u32, .int .u32], [.int .u32, .bool], fun x => r01_Do x.1 x.2.1 x.2.2⟩
noncomputable def A_r01_Do : TA :=
 .prim (.conv .u64) [.v 1] <|
 .prim (.conv .u64) [.v 2] <|
 .prim (.bin .eql) [.v 0, .c (.int .i64 2)] <|
 .ite (.v 5) (
  .prim (.bin .add) [.v 3, .v 4] <|
  .prim (.bin .rem) [.v 6, .c (.int .u64 4294967296)] <|
  .prim (.conv .u32) [.v 7] <|
  .jmp 0 false [.v 8, .c (.bool true)]) (
  .prim (.bin .eql) [.v 0, .c (.int .i64 3)] <|
  .ite (.v 6) (
   .prim (.bin .add) [.v 3, .c (.int .u64 4294967296)] <|
   .prim (.bin .sub) [.v 7, .v 4] <|
   .prim (.bin .rem) [.v 8, .c (.int .u64 4294967296)] <|
   .prim (.conv .u32) [.v 9] <|
   .jmp 0 false [.v 10, .c (.bool true)]) (
   .prim (.bin .eql) [.v 0, .c (.int .i64 4)] <|
   .ite (.v 7) (
    .prim (.bin .mul) [.v 3, .v 4] <|
    .prim (.bin .rem) [.v 8, .c (.int .u64 4294967296)] <|
    .prim (.conv .u32) [.v 9] <|
    .jmp 0 false [.v 10, .c (.bool true)]) (
    .prim (.bin .eql) [.v 0, .c (.int .i64 5)] <|
    .ite (.v 8) (
     .call 104 F_r01_bits [.v 1, .v 2, .c (.bool true)] 1 <|
     .jmp 0 false [.v 9, .c (.bool true)]) (
     .prim (.bin .eql) [.v 0, .c (.int .i64 6)] <|
     .ite (.v 9) (
      .call 104 F_r01_bits [.v 1, .v 2, .c (.bool false)] 1 <|
      .jmp 0 false [.v 10, .c (.bool true)]) (
      .subp [.bool] (
       .prim (.bin .eql) [.v 0, .c (.int .i64 7)] <|
       .ite (.v 10) (
        .prim (.bin .eql) [.v 1, .v 2] <|
        .ite (.v 11) (
         .jmp 0 false [.c (.bool true)]) (
         .prim (.bin .eql) [.v 0, .c (.int .i64 8)] <|
         .ite (.v 12) (
          .prim (.bin .lss) [.v 1, .v 2] <|
          .jmp 0 false [.v 13]) (
          .jmp 0 false [.c (.bool false)]))) (
        .prim (.bin .eql) [.v 0, .c (.int .i64 8)] <|
        .ite (.v 11) (
         .prim (.bin .lss) [.v 1, .v 2] <|
         .jmp 0 false [.v 12]) (
         .jmp 0 false [.c (.bool false)]))) 1 <|
      .ite (.v 10) (
       .jmp 0 false [.c (.int .u32 1), .c (.bool true)]) (
       .subp [.bool] (
        .prim (.bin .eql) [.v 0, .c (.int .i64 7)] <|
        .ite (.v 11) (
         .jmp 0 false [.c (.bool true)]) (
         .prim (.bin .eql) [.v 0, .c (.int .i64 8)] <|
         .jmp 0 false [.v 12])) 1 <|
       .jmp 0 false [.c (.int .u32 0), .v 11]))))))
theorem a_r01_Do : treeOf cx 12 92 = some A_r01_Do.erase := by kernel_rfl
theorem k_r01_Do : FnOk cx 12 noC 92 F_r01_Do := fn_ok (t := A_r01_Do) a_r01_Do (fun _ => rfl) (ok_of [(104, F_r01_bits), (104, F_r01_bits)] (by kernel_rfl) (.cons k_r01_bits (.cons k_r01_bits .nil))) (fun x => by kernel_rfl)

/-! 102: backstay/backstayref02.May -/
def r02_May (p0 : Ins) (p1 : Int) : Bool :=
  let v4e : Bool := decide ((Ins.Op p0) = (2 : Int))
  let v5e_e : Bool := decide ((Ins.Op p0) = (3 : Int))
  let v6e_e_e : Bool := decide ((Ins.Op p0) = (4 : Int))
  let v7e_e_e_e : Bool := decide ((Ins.Op p0) = (5 : Int))
  let v8e_e_e_e_e : Bool := decide ((Ins.Op p0) = (6 : Int))
  let v9e_e_e_e_e_e : Bool := decide ((Ins.Op p0) = (7 : Int))
  let v10e_e_e_e_e_e_e : Bool := decide ((Ins.Op p0) = (8 : Int))
  let v6ee : Bool := decide ((Ins.Op p0) = (9 : Int))
  let v8eee : Bool := decide ((Ins.Op p0) = (12 : Int))
  bif decide ((Ins.Op p0) = (1 : Int)) then (r02_reg (Ins.A p0)) && ((decide ((Ins.B p0) = (0 : Int))) && (decide ((Ins.C p0) = (0 : Int)))) else bif bif v4e then v4e else bif v5e_e then v5e_e else bif v6e_e_e then v6e_e_e else bif v7e_e_e_e then v7e_e_e_e else bif v8e_e_e_e_e then v8e_e_e_e_e else bif v9e_e_e_e_e_e then v9e_e_e_e_e_e else bif v10e_e_e_e_e_e_e then v10e_e_e_e_e_e_e else decide ((Ins.Op p0) = (11 : Int)) then (r02_reg (Ins.A p0)) && ((r02_reg (Ins.B p0)) && ((r02_reg (Ins.C p0)) && (decide ((Ins.K p0) = (0 : Int))))) else bif bif v6ee then v6ee else decide ((Ins.Op p0) = (10 : Int)) then (r02_reg (Ins.A p0)) && ((r02_reg (Ins.B p0)) && ((decide ((Ins.C p0) = (0 : Int))) && (decide ((Ins.K p0) = (0 : Int))))) else bif bif v8eee then v8eee else decide ((Ins.Op p0) = (16 : Int)) then (decide ((Ins.A p0) = (0 : Int))) && ((decide ((Ins.B p0) = (0 : Int))) && ((decide ((Ins.C p0) = (0 : Int))) && (decide ((Ins.K p0) = (0 : Int))))) else bif decide ((Ins.Op p0) = (13 : Int)) then (decide ((Ins.A p0) = (0 : Int))) && ((decide ((Ins.B p0) = (0 : Int))) && ((decide ((Ins.C p0) = (0 : Int))) && (r02_goal (Ins.K p0) p1))) else bif decide ((Ins.Op p0) = (14 : Int)) then (r02_reg (Ins.A p0)) && ((decide ((Ins.B p0) = (0 : Int))) && ((decide ((Ins.C p0) = (0 : Int))) && (r02_goal (Ins.K p0) p1))) else (decide ((Ins.Op p0) = (15 : Int))) && ((r02_reg (Ins.A p0)) && ((decide ((Ins.B p0) = (0 : Int))) && ((decide ((Ins.C p0) = (0 : Int))) && (decide ((Ins.K p0) = (0 : Int))))))
def F_r02_May : PnT := ⟨[tIns, .int .i64], [.bool], fun x => r02_May x.1 x.2⟩
def A_r02_May : TA :=
 .prim (.fld 0) [.v 0] <|
 .prim (.bin .eql) [.v 2, .c (.int .i64 1)] <|
 .ite (.v 3) (
  .subp [.bool] (
   .prim (.fld 1) [.v 0] <|
   .callp 111 F_r02_reg [.v 4] 1 <|
   .ite (.v 5) (
    .prim (.fld 2) [.v 0] <|
    .prim (.bin .eql) [.v 6, .c (.int .i64 0)] <|
    .ite (.v 7) (
     .prim (.fld 3) [.v 0] <|
     .prim (.bin .eql) [.v 8, .c (.int .i64 0)] <|
     .jmp 0 false [.v 9]) (
     .jmp 0 false [.c (.bool false)])) (
    .jmp 0 false [.c (.bool false)])) 1 <|
  .jmp 0 false [.v 4]) (
  .prim (.bin .eql) [.v 2, .c (.int .i64 2)] <|
  .subp [.bool] (
   .ite (.v 4) (
    .jmp 0 false [.v 4]) (
    .prim (.bin .eql) [.v 2, .c (.int .i64 3)] <|
    .subp [.bool] (
     .ite (.v 5) (
      .jmp 0 false [.v 5]) (
      .prim (.bin .eql) [.v 2, .c (.int .i64 4)] <|
      .subp [.bool] (
       .ite (.v 6) (
        .jmp 0 false [.v 6]) (
        .prim (.bin .eql) [.v 2, .c (.int .i64 5)] <|
        .subp [.bool] (
         .ite (.v 7) (
          .jmp 0 false [.v 7]) (
          .prim (.bin .eql) [.v 2, .c (.int .i64 6)] <|
          .subp [.bool] (
           .ite (.v 8) (
            .jmp 0 false [.v 8]) (
            .prim (.bin .eql) [.v 2, .c (.int .i64 7)] <|
            .subp [.bool] (
             .ite (.v 9) (
              .jmp 0 false [.v 9]) (
              .prim (.bin .eql) [.v 2, .c (.int .i64 8)] <|
              .subp [.bool] (
               .ite (.v 10) (
                .jmp 0 false [.v 10]) (
                .prim (.bin .eql) [.v 2, .c (.int .i64 11)] <|
                .jmp 0 false [.v 11])) 1 <|
              .jmp 0 false [.v 11])) 1 <|
            .jmp 0 false [.v 10])) 1 <|
          .jmp 0 false [.v 9])) 1 <|
        .jmp 0 false [.v 8])) 1 <|
      .jmp 0 false [.v 7])) 1 <|
    .jmp 0 false [.v 6])) 1 <|
  .ite (.v 5) (
   .subp [.bool] (
    .prim (.fld 1) [.v 0] <|
    .callp 111 F_r02_reg [.v 6] 1 <|
    .ite (.v 7) (
     .prim (.fld 2) [.v 0] <|
     .callp 111 F_r02_reg [.v 8] 1 <|
     .ite (.v 9) (
      .prim (.fld 3) [.v 0] <|
      .callp 111 F_r02_reg [.v 10] 1 <|
      .ite (.v 11) (
       .prim (.fld 4) [.v 0] <|
       .prim (.bin .eql) [.v 12, .c (.int .u32 0)] <|
       .jmp 0 false [.v 13]) (
       .jmp 0 false [.c (.bool false)])) (
      .jmp 0 false [.c (.bool false)])) (
     .jmp 0 false [.c (.bool false)])) 1 <|
   .jmp 0 false [.v 6]) (
   .prim (.bin .eql) [.v 2, .c (.int .i64 9)] <|
   .subp [.bool] (
    .ite (.v 6) (
     .jmp 0 false [.v 6]) (
     .prim (.bin .eql) [.v 2, .c (.int .i64 10)] <|
     .jmp 0 false [.v 7])) 1 <|
   .ite (.v 7) (
    .subp [.bool] (
     .prim (.fld 1) [.v 0] <|
     .callp 111 F_r02_reg [.v 8] 1 <|
     .ite (.v 9) (
      .prim (.fld 2) [.v 0] <|
      .callp 111 F_r02_reg [.v 10] 1 <|
      .ite (.v 11) (
       .prim (.fld 3) [.v 0] <|
       .prim (.bin .eql) [.v 12, .c (.int .i64 0)] <|
       .ite (.v 13) (
        .prim (.fld 4) [.v 0] <|
        .prim (.bin .eql) [.v 14, .c (.int .u32 0)] <|
        .jmp 0 false [.v 15]) (
        .jmp 0 false [.c (.bool false)])) (
       .jmp 0 false [.c (.bool false)])) (
      .jmp 0 false [.c (.bool false)])) 1 <|
    .jmp 0 false [.v 8]) (
    .prim (.bin .eql) [.v 2, .c (.int .i64 12)] <|
    .subp [.bool] (
     .ite (.v 8) (
      .jmp 0 false [.v 8]) (
      .prim (.bin .eql) [.v 2, .c (.int .i64 16)] <|
      .jmp 0 false [.v 9])) 1 <|
    .ite (.v 9) (
     .subp [.bool] (
      .prim (.fld 1) [.v 0] <|
      .prim (.bin .eql) [.v 10, .c (.int .i64 0)] <|
      .ite (.v 11) (
       .prim (.fld 2) [.v 0] <|
       .prim (.bin .eql) [.v 12, .c (.int .i64 0)] <|
       .ite (.v 13) (
        .prim (.fld 3) [.v 0] <|
        .prim (.bin .eql) [.v 14, .c (.int .i64 0)] <|
        .ite (.v 15) (
         .prim (.fld 4) [.v 0] <|
         .prim (.bin .eql) [.v 16, .c (.int .u32 0)] <|
         .jmp 0 false [.v 17]) (
         .jmp 0 false [.c (.bool false)])) (
        .jmp 0 false [.c (.bool false)])) (
       .jmp 0 false [.c (.bool false)])) 1 <|
     .jmp 0 false [.v 10]) (
     .prim (.bin .eql) [.v 2, .c (.int .i64 13)] <|
     .ite (.v 10) (
      .subp [.bool] (
       .prim (.fld 1) [.v 0] <|
       .prim (.bin .eql) [.v 11, .c (.int .i64 0)] <|
       .ite (.v 12) (
        .prim (.fld 2) [.v 0] <|
        .prim (.bin .eql) [.v 13, .c (.int .i64 0)] <|
        .ite (.v 14) (
         .prim (.fld 3) [.v 0] <|
         .prim (.bin .eql) [.v 15, .c (.int .i64 0)] <|
         .ite (.v 16) (
          .prim (.fld 4) [.v 0] <|
          .callp 112 F_r02_goal [.v 17, .v 1] 1 <|
          .jmp 0 false [.v 18]) (
          .jmp 0 false [.c (.bool false)])) (
         .jmp 0 false [.c (.bool false)])) (
        .jmp 0 false [.c (.bool false)])) 1 <|
      .jmp 0 false [.v 11]) (
      .prim (.bin .eql) [.v 2, .c (.int .i64 14)] <|
      .ite (.v 11) (
       .subp [.bool] (
        .prim (.fld 1) [.v 0] <|
        .callp 111 F_r02_reg [.v 12] 1 <|
        .ite (.v 13) (
         .prim (.fld 2) [.v 0] <|
         .prim (.bin .eql) [.v 14, .c (.int .i64 0)] <|
         .ite (.v 15) (
          .prim (.fld 3) [.v 0] <|
          .prim (.bin .eql) [.v 16, .c (.int .i64 0)] <|
          .ite (.v 17) (
           .prim (.fld 4) [.v 0] <|
           .callp 112 F_r02_goal [.v 18, .v 1] 1 <|
           .jmp 0 false [.v 19]) (
           .jmp 0 false [.c (.bool false)])) (
          .jmp 0 false [.c (.bool false)])) (
         .jmp 0 false [.c (.bool false)])) 1 <|
       .jmp 0 false [.v 12]) (
       .prim (.bin .eql) [.v 2, .c (.int .i64 15)] <|
       .ite (.v 12) (
        .subp [.bool] (
         .prim (.fld 1) [.v 0] <|
         .callp 111 F_r02_reg [.v 13] 1 <|
         .ite (.v 14) (
          .prim (.fld 2) [.v 0] <|
          .prim (.bin .eql) [.v 15, .c (.int .i64 0)] <|
          .ite (.v 16) (
           .prim (.fld 3) [.v 0] <|
           .prim (.bin .eql) [.v 17, .c (.int .i64 0)] <|
           .ite (.v 18) (
            .prim (.fld 4) [.v 0] <|
            .prim (.bin .eql) [.v 19, .c (.int .u32 0)] <|
            .jmp 0 false [.v 20]) (
            .jmp 0 false [.c (.bool false)])) (
           .jmp 0 false [.c (.bool false)])) (
          .jmp 0 false [.c (.bool false)])) 1 <|
        .jmp 0 false [.v 13]) (
        .jmp 0 false [.c (.bool false)])))))))
theorem a_r02_May : treeOf cx 12 102 = some A_r02_May.erase := by kernel_rfl
theorem k_r02_May : FnOk cx 12 noC 102 F_r02_May.fn := pn_ok (t := A_r02_May) a_r02_May (fun _ => rfl) (ok_of [(111, F_r02_reg.fn), (111, F_r02_reg.fn), (111, F_r02_reg.fn), (111, F_r02_reg.fn), (111, F_r02_reg.fn), (111, F_r02_reg.fn), (112, F_r02_goal.fn), (111, F_r02_reg.fn), (112, F_r02_goal.fn), (111, F_r02_reg.fn)] (by kernel_rfl) (.cons k_r02_reg (.cons k_r02_reg (.cons k_r02_reg (.cons k_r02_reg (.cons k_r02_reg (.cons k_r02_reg (.cons k_r02_goal (.cons k_r02_reg (.cons k_r02_goal (.cons k_r02_reg .nil))))))))))) (fun x => by kernel_rfl)

/-! 109: backstay/isa.Uses -/
def isa_Uses (p0 : Int) : (Bool × Bool × Bool × Bool) :=
  let v1 : Int := isa_uses p0
  (!decide ((bAnd .i64 v1 (1 : Int)) = (0 : Int)), !decide ((bAnd .i64 v1 (2 : Int)) = (0 : Int)), !decide ((bAnd .i64 v1 (4 : Int)) = (0 : Int)), !decide ((bAnd .i64 v1 (8 : Int)) = (0 : Int)))
def F_isa_Uses : PnT := ⟨[.int .i64], [.bool, .bool, .bool, .bool], fun x => isa_Uses x⟩
def A_isa_Uses : TA :=
 .callp 113 F_isa_uses [.v 0] 1 <|
 .prim (.bin .and) [.v 1, .c (.int .i64 1)] <|
 .prim (.bin .neq) [.v 2, .c (.int .i64 0)] <|
 .prim (.bin .and) [.v 1, .c (.int .i64 2)] <|
 .prim (.bin .neq) [.v 4, .c (.int .i64 0)] <|
 .prim (.bin .and) [.v 1, .c (.int .i64 4)] <|
 .prim (.bin .neq) [.v 6, .c (.int .i64 0)] <|
 .prim (.bin .and) [.v 1, .c (.int .i64 8)] <|
 .prim (.bin .neq) [.v 8, .c (.int .i64 0)] <|
 .jmp 0 false [.v 3, .v 5, .v 7, .v 9]
theorem a_isa_Uses : treeOf cx 12 109 = some A_isa_Uses.erase := by kernel_rfl
theorem k_isa_Uses : FnOk cx 12 noC 109 F_isa_Uses.fn := pn_ok (t := A_isa_Uses) a_isa_Uses (fun _ => rfl) (ok_of [(113, F_isa_uses.fn)] (by kernel_rfl) (.cons k_isa_uses .nil)) (fun x => by kernel_rfl)

/-! 88: backstay/backstayref02.Right -/
noncomputable def r02_Right_L1 (x0 : List Ins) (s : Int) : Option (Int ⊕ Unit ⊕ Bool) :=
  if decide (s < (List.length x0 : Int)) then
    (getO x0 s).bind fun v5 =>
    if !(r02_May v5 (List.length x0 : Int)) then
      some (Sum.inr (Sum.inr (false)))
    else
      some (Sum.inl (w64 (s + (1 : Int))))
  else
    some (Sum.inr (Sum.inl ()))
noncomputable def r02_Right (p0 : List Ins) : Option Bool :=
  if (decide ((List.length p0 : Int) = (0 : Int))) || (decide ((64 : Int) < (List.length p0 : Int))) then
    some (false)
  else
    orExit (
      loopD (r02_Right_L1 p0) (0 : Int) : Option (Unit ⊕ Bool)) fun v2 =>
    (
      (getO p0 (w64 ((List.length p0 : Int) - (1 : Int)))).bind fun v4 =>
      if decide ((Ins.Op v4) = (16 : Int)) then
        some (true)
      else
        (getO p0 (w64 ((List.length p0 : Int) - (1 : Int)))).bind fun v9 =>
        some ((decide ((Ins.Op v9) = (13 : Int)))) : Option Bool).bind fun v2 =>
    some (v2)
noncomputable def F_r02_Right : FnT := ⟨[.sl tIns], [.bool], fun x => r02_Right x⟩
noncomputable def A_r02_Right : TA :=
 .subp [.bool] (
  .prim .len [.v 0] <|
  .prim (.bin .eql) [.v 1, .c (.int .i64 0)] <|
  .ite (.v 2) (
   .jmp 0 false [.c (.bool true)]) (
   .prim .len [.v 0] <|
   .prim (.bin .gtr) [.v 3, .c (.int .i64 64)] <|
   .jmp 0 false [.v 4])) 1 <|
 .ite (.v 1) (
  .jmp 0 false [.c (.bool false)]) (
  .sub1 [] (
   .loop [.int .i64] [.c (.int .i64 0)] (
    .prim .len [.v 0] <|
    .prim (.bin .lss) [.v 2, .v 3] <|
    .ite (.v 4) (
     .prim .get [.v 0, .v 2] <|
     .prim .len [.v 0] <|
     .callp 102 F_r02_May [.v 5, .v 6] 1 <|
     .prim (.un .not) [.v 7] <|
     .ite (.v 8) (
      .jmp 2 false [.c (.bool false)]) (
      .prim (.bin .add) [.v 2, .c (.int .i64 1)] <|
      .jmp 0 true [.v 9])) (
     .jmp 1 false []))) 0 <|
  .sub0 [.bool] (
   .prim .len [.v 0] <|
   .prim (.bin .sub) [.v 2, .c (.int .i64 1)] <|
   .prim .get [.v 0, .v 3] <|
   .prim (.fld 0) [.v 4] <|
   .prim (.bin .eql) [.v 5, .c (.int .i64 16)] <|
   .ite (.v 6) (
    .jmp 0 false [.c (.bool true)]) (
    .prim .len [.v 0] <|
    .prim (.bin .sub) [.v 7, .c (.int .i64 1)] <|
    .prim .get [.v 0, .v 8] <|
    .prim (.fld 0) [.v 9] <|
    .prim (.bin .eql) [.v 10, .c (.int .i64 13)] <|
    .jmp 0 false [.v 11])) 1 <|
  .jmp 0 false [.v 2])
theorem a_r02_Right : treeOf cx 12 88 = some A_r02_Right.erase := by kernel_rfl
theorem k_r02_Right : FnOk cx 12 noC 88 F_r02_Right := fn_ok (t := A_r02_Right) a_r02_Right (fun _ => rfl) (ok_of [(102, F_r02_May.fn)] (by kernel_rfl) (.cons k_r02_May .nil)) (fun x => by kernel_rfl)

/-! 101: backstay/isa.May -/
def isa_May (p0 : Ins) (p1 : Int) : Bool :=
  let v3 : (Bool × Bool × Bool × Bool) := isa_Uses (Ins.Op p0)
  bif (decide ((Ins.Op p0) < (1 : Int))) || ((decide ((16 : Int) < (Ins.Op p0))) || ((!(isa_register (Ins.A p0) v3.1)) || ((!(isa_register (Ins.B p0) v3.2.1)) || (!(isa_register (Ins.C p0) v3.2.2.1))))) then false else (decide ((Ins.Op p0) = (1 : Int))) || (bif !v3.2.2.2 then decide ((Ins.K p0) = (0 : Int)) else (decide ((0 : Int) < p1)) && (decide ((wu64 (Ins.K p0)) < (wu64 p1))))
def F_isa_May : PnT := ⟨[tIns, .int .i64], [.bool], fun x => isa_May x.1 x.2⟩
def A_isa_May : TA :=
 .prim (.fld 0) [.v 0] <|
 .callp 109 F_isa_Uses [.v 2] 4 <|
 .subp [.bool] (
  .prim (.fld 0) [.v 0] <|
  .prim (.bin .lss) [.v 7, .c (.int .i64 1)] <|
  .ite (.v 8) (
   .jmp 0 false [.c (.bool true)]) (
   .prim (.fld 0) [.v 0] <|
   .prim (.bin .gtr) [.v 9, .c (.int .i64 16)] <|
   .ite (.v 10) (
    .jmp 0 false [.c (.bool true)]) (
    .prim (.fld 1) [.v 0] <|
    .callp 110 F_isa_register [.v 11, .v 3] 1 <|
    .prim (.un .not) [.v 12] <|
    .ite (.v 13) (
     .jmp 0 false [.c (.bool true)]) (
     .prim (.fld 2) [.v 0] <|
     .callp 110 F_isa_register [.v 14, .v 4] 1 <|
     .prim (.un .not) [.v 15] <|
     .ite (.v 16) (
      .jmp 0 false [.c (.bool true)]) (
      .prim (.fld 3) [.v 0] <|
      .callp 110 F_isa_register [.v 17, .v 5] 1 <|
      .prim (.un .not) [.v 18] <|
      .jmp 0 false [.v 19]))))) 1 <|
 .ite (.v 7) (
  .jmp 0 false [.c (.bool false)]) (
  .prim (.fld 0) [.v 0] <|
  .prim (.bin .eql) [.v 8, .c (.int .i64 1)] <|
  .ite (.v 9) (
   .jmp 0 false [.c (.bool true)]) (
   .prim (.un .not) [.v 6] <|
   .ite (.v 10) (
    .prim (.fld 4) [.v 0] <|
    .prim (.bin .eql) [.v 11, .c (.int .u32 0)] <|
    .jmp 0 false [.v 12]) (
    .subp [.bool] (
     .prim (.bin .gtr) [.v 1, .c (.int .i64 0)] <|
     .ite (.v 11) (
      .prim (.fld 4) [.v 0] <|
      .prim (.conv .u64) [.v 12] <|
      .prim (.conv .u64) [.v 1] <|
      .prim (.bin .lss) [.v 13, .v 14] <|
      .jmp 0 false [.v 15]) (
      .jmp 0 false [.c (.bool false)])) 1 <|
    .jmp 0 false [.v 11])))
theorem a_isa_May : treeOf cx 12 101 = some A_isa_May.erase := by kernel_rfl
theorem k_isa_May : FnOk cx 12 noC 101 F_isa_May.fn := pn_ok (t := A_isa_May) a_isa_May (fun _ => rfl) (ok_of [(109, F_isa_Uses.fn), (110, F_isa_register.fn), (110, F_isa_register.fn), (110, F_isa_register.fn)] (by kernel_rfl) (.cons k_isa_Uses (.cons k_isa_register (.cons k_isa_register (.cons k_isa_register .nil))))) (fun x => by kernel_rfl)

/-! 56: backstay/backstayref03.Right -/
noncomputable def r03_Right (p0 : List Ins) (p1 : Core) : Option Bool :=
  (
    (r02_Right p0).bind fun v2 =>
    if v2 then
      if decide ((0 : Int) ≤ (Core.PC p1)) then
        some ((decide ((Core.PC p1) < (List.length p0 : Int))))
      else
        some (false)
    else
      some (false) : Option Bool).bind fun v2 =>
  some (v2)
noncomputable def F_r03_Right : FnT := ⟨[.sl tIns, tCore], [.bool], fun x => r03_Right x.1 x.2⟩
noncomputable def A_r03_Right : TA :=
 .sub0 [.bool] (
  .call 88 F_r02_Right [.v 0] 1 <|
  .ite (.v 2) (
   .prim (.fld 1) [.v 1] <|
   .prim (.bin .geq) [.v 3, .c (.int .i64 0)] <|
   .ite (.v 4) (
    .prim (.fld 1) [.v 1] <|
    .prim .len [.v 0] <|
    .prim (.bin .lss) [.v 5, .v 6] <|
    .jmp 0 false [.v 7]) (
    .jmp 0 false [.c (.bool false)])) (
   .jmp 0 false [.c (.bool false)])) 1 <|
 .jmp 0 false [.v 2]
theorem a_r03_Right : treeOf cx 12 56 = some A_r03_Right.erase := by kernel_rfl
theorem k_r03_Right : FnOk cx 12 noC 56 F_r03_Right := fn_ok (t := A_r03_Right) a_r03_Right (fun _ => rfl) (ok_of [(88, F_r02_Right)] (by kernel_rfl) (.cons k_r02_Right .nil)) (fun x => by kernel_rfl)

/-! 87: backstay/isa.Right -/
noncomputable def isa_Right_L1 (x0 : List Ins) (x7 : Int) (s : Int) : Option (Int ⊕ Unit ⊕ Int) :=
  if decide (s < x7) then
    (getO x0 s).bind fun v10 =>
    if !(isa_May v10 (List.length x0 : Int)) then
      some (Sum.inr (Sum.inr (s)))
    else
      some (Sum.inl (w64 (s + (1 : Int))))
  else
    some (Sum.inr (Sum.inl ()))
noncomputable def isa_Right (p0 : List Ins) : Option Bool :=
  if (decide ((List.length p0 : Int) < (1 : Int))) || (decide ((64 : Int) < (List.length p0 : Int))) then
    some (false)
  else
    (getO p0 (w64 ((List.length p0 : Int) - (1 : Int)))).bind fun v4 =>
    (
      if (decide ((Ins.Op v4) = (16 : Int))) || (decide ((Ins.Op v4) = (13 : Int))) then
        (
          (
            let v7 : Int := (List.length p0 : Int)
            orExit (
              loopD (isa_Right_L1 p0 v7) (0 : Int) : Option (Unit ⊕ Int)) fun v8 =>
            some ((-1 : Int)) : Option Int).bind fun v7 =>
          some ((decide ((0 : Int) ≤ v7))) : Option Bool).bind fun v7 =>
        some ((!v7))
      else
        some (false) : Option Bool).bind fun v7 =>
    some (v7)
noncomputable def F_isa_Right : FnT := ⟨[.sl tIns], [.bool], fun x => isa_Right x⟩
noncomputable def A_isa_Right : TA :=
 .subp [.bool] (
  .prim .len [.v 0] <|
  .prim (.bin .lss) [.v 1, .c (.int .i64 1)] <|
  .ite (.v 2) (
   .jmp 0 false [.c (.bool true)]) (
   .prim .len [.v 0] <|
   .prim (.bin .gtr) [.v 3, .c (.int .i64 64)] <|
   .jmp 0 false [.v 4])) 1 <|
 .ite (.v 1) (
  .jmp 0 false [.c (.bool false)]) (
  .prim .len [.v 0] <|
  .prim (.bin .sub) [.v 2, .c (.int .i64 1)] <|
  .prim .get [.v 0, .v 3] <|
  .prim (.fld 0) [.v 4] <|
  .subp [.bool] (
   .prim (.bin .eql) [.v 5, .c (.int .i64 16)] <|
   .ite (.v 6) (
    .jmp 0 false [.c (.bool true)]) (
    .prim (.bin .eql) [.v 5, .c (.int .i64 13)] <|
    .jmp 0 false [.v 7])) 1 <|
  .sub0 [.bool] (
   .ite (.v 6) (
    .sub0 [.bool] (
     .sub0 [.int .i64] (
      .prim .len [.v 0] <|
      .sub1 [] (
       .loop [.int .i64] [.c (.int .i64 0)] (
        .prim (.bin .lss) [.v 8, .v 7] <|
        .ite (.v 9) (
         .prim .get [.v 0, .v 8] <|
         .subp [.bool] (
          .prim .len [.v 0] <|
          .callp 101 F_isa_May [.v 10, .v 11] 1 <|
          .prim (.un .not) [.v 12] <|
          .jmp 0 false [.v 13]) 1 <|
         .ite (.v 11) (
          .jmp 2 false [.v 8]) (
          .prim (.bin .add) [.v 8, .c (.int .i64 1)] <|
          .jmp 0 true [.v 12])) (
         .jmp 1 false []))) 0 <|
      .jmp 0 false [.c (.int .i64 (-1))]) 1 <|
     .prim (.bin .geq) [.v 7, .c (.int .i64 0)] <|
     .jmp 0 false [.v 8]) 1 <|
    .prim (.un .not) [.v 7] <|
    .jmp 0 false [.v 8]) (
    .jmp 0 false [.c (.bool false)])) 1 <|
  .jmp 0 false [.v 7])
theorem a_isa_Right : treeOf cx 12 87 = some A_isa_Right.erase := by kernel_rfl
theorem k_isa_Right : FnOk cx 12 noC 87 F_isa_Right := fn_ok (t := A_isa_Right) a_isa_Right (fun _ => rfl) (ok_of [(101, F_isa_May.fn)] (by kernel_rfl) (.cons k_isa_May .nil)) (fun x => by kernel_rfl)

/-! 55: backstay/core.Right -/
noncomputable def core_Right (p0 : List Ins) (p1 : Core) : Option Bool :=
  (
    (isa_Right p0).bind fun v2 =>
    if v2 then
      if decide ((0 : Int) ≤ (Core.PC p1)) then
        some ((decide ((Core.PC p1) < (List.length p0 : Int))))
      else
        some (false)
    else
      some (false) : Option Bool).bind fun v2 =>
  some (v2)
noncomputable def F_core_Right : FnT := ⟨[.sl tIns, tCore], [.bool], fun x => core_Right x.1 x.2⟩
noncomputable def A_core_Right : TA :=
 .sub0 [.bool] (
  .call 87 F_isa_Right [.v 0] 1 <|
  .ite (.v 2) (
   .prim (.fld 1) [.v 1] <|
   .prim (.bin .geq) [.v 3, .c (.int .i64 0)] <|
   .ite (.v 4) (
    .prim (.fld 1) [.v 1] <|
    .prim .len [.v 0] <|
    .prim (.bin .lss) [.v 5, .v 6] <|
    .jmp 0 false [.v 7]) (
    .jmp 0 false [.c (.bool false)])) (
   .jmp 0 false [.c (.bool false)])) 1 <|
 .jmp 0 false [.v 2]
theorem a_core_Right : treeOf cx 12 55 = some A_core_Right.erase := by kernel_rfl
theorem k_core_Right : FnOk cx 12 noC 55 F_core_Right := fn_ok (t := A_core_Right) a_core_Right (fun _ => rfl) (ok_of [(87, F_isa_Right)] (by kernel_rfl) (.cons k_isa_Right .nil)) (fun x => by kernel_rfl)

/-! 58: backstay/backstayref03.Wants -/
noncomputable def r03_Wants (p0 : List Ins) (p1 : Core) (p2 : Int) : Option Want :=
  (
    (r03_Right p0 p1).bind fun v3 =>
    if !v3 then
      some (true)
    else
      some ((Core.Halted p1)) : Option Bool).bind fun v3 =>
  if v3 then
    some ((Want.mk (5 : Int) (0 : Int) (0 : Int) (0 : Int)))
  else
    (getO p0 (Core.PC p1)).bind fun v5 =>
    let v8 : Want := bif !decide ((Ins.Op v5) = (16 : Int)) then (Want.mk (0 : Int) (0 : Int) (0 : Int) (0 : Int)) else (Want.mk (5 : Int) (0 : Int) (0 : Int) (0 : Int))
    (
      if (decide ((Ins.Op v5) = (9 : Int))) || ((decide ((Ins.Op v5) = (10 : Int))) || (decide ((Ins.Op v5) = (11 : Int)))) then
        (idxO (8 : Int) (Ins.B v5)).bind fun v14 =>
        (getO (Core.Regs p1) v14).bind fun v16 =>
        (r03_Place v16 p2).bind fun v17 =>
        some ((Want.setAt (Want.setKind v8 (w64 ((Ins.Op v5) - (8 : Int)))) v17))
      else
        some (v8) : Option Want).bind fun v10 =>
    (
      if (decide ((Ins.Op v5) = (10 : Int))) || (decide ((Ins.Op v5) = (15 : Int))) then
        (idxO (8 : Int) (Ins.A v5)).bind fun v13 =>
        (getO (Core.Regs p1) v13).bind fun v15 =>
        some ((Want.setVal v10 v15))
      else
        some (v10) : Option Want).bind fun v12 =>
    (
      if decide ((Ins.Op v5) = (11 : Int)) then
        (idxO (8 : Int) (Ins.C v5)).bind fun v16 =>
        (getO (Core.Regs p1) v16).bind fun v18 =>
        (idxO (8 : Int) (Ins.A v5)).bind fun v21 =>
        (getO (Core.Regs p1) v21).bind fun v23 =>
        some ((Want.setOld (Want.setVal v12 v18) v23))
      else
        some (v12) : Option Want).bind fun v15 =>
    some ((bif decide ((Ins.Op v5) = (15 : Int)) then Want.setKind v15 (4 : Int) else v15))
noncomputable def F_r03_Wants : FnT := ⟨[.sl tIns, tCore, .int .i64], [tWant], fun x => r03_Wants x.1 x.2.1 x.2.2⟩
noncomputable def A_r03_Wants : TA :=
 .sub0 [.bool] (
  .call 56 F_r03_Right [.v 0, .v 1] 1 <|
  .prim (.un .not) [.v 3] <|
  .ite (.v 4) (
   .jmp 0 false [.c (.bool true)]) (
   .prim (.fld 2) [.v 1] <|
   .jmp 0 false [.v 5])) 1 <|
 .ite (.v 3) (
  .jmp 0 false [.c (.agg [(.int .i64 5), (.int .i64 0), (.int .u32 0), (.int .u32 0)])]) (
  .prim (.fld 1) [.v 1] <|
  .prim .get [.v 0, .v 4] <|
  .prim (.fld 0) [.v 5] <|
  .prim (.bin .neq) [.v 6, .c (.int .i64 16)] <|
  .subp [tWant] (
   .ite (.v 7) (
    .jmp 0 false [.c (.agg [(.int .i64 0), (.int .i64 0), (.int .u32 0), (.int .u32 0)])]) (
    .jmp 0 false [.c (.agg [(.int .i64 5), (.int .i64 0), (.int .u32 0), (.int .u32 0)])])) 1 <|
  .subp [.bool] (
   .prim (.fld 0) [.v 5] <|
   .prim (.bin .eql) [.v 9, .c (.int .i64 9)] <|
   .ite (.v 10) (
    .jmp 0 false [.c (.bool true)]) (
    .prim (.fld 0) [.v 5] <|
    .prim (.bin .eql) [.v 11, .c (.int .i64 10)] <|
    .ite (.v 12) (
     .jmp 0 false [.c (.bool true)]) (
     .prim (.fld 0) [.v 5] <|
     .prim (.bin .eql) [.v 13, .c (.int .i64 11)] <|
     .jmp 0 false [.v 14]))) 1 <|
  .sub0 [tWant] (
   .ite (.v 9) (
    .prim (.fld 0) [.v 5] <|
    .prim (.bin .sub) [.v 10, .c (.int .i64 8)] <|
    .prim (.setf 0) [.v 8, .v 11] <|
    .prim (.fld 2) [.v 5] <|
    .prim (.idxn 8) [.v 13] <|
    .prim (.fld 0) [.v 1] <|
    .prim .get [.v 15, .v 14] <|
    .call 90 F_r03_Place [.v 16, .v 2] 1 <|
    .prim (.setf 1) [.v 12, .v 17] <|
    .jmp 0 false [.v 18]) (
    .jmp 0 false [.v 8])) 1 <|
  .subp [.bool] (
   .prim (.fld 0) [.v 5] <|
   .prim (.bin .eql) [.v 11, .c (.int .i64 10)] <|
   .ite (.v 12) (
    .jmp 0 false [.c (.bool true)]) (
    .prim (.fld 0) [.v 5] <|
    .prim (.bin .eql) [.v 13, .c (.int .i64 15)] <|
    .jmp 0 false [.v 14])) 1 <|
  .sub0 [tWant] (
   .ite (.v 11) (
    .prim (.fld 1) [.v 5] <|
    .prim (.idxn 8) [.v 12] <|
    .prim (.fld 0) [.v 1] <|
    .prim .get [.v 14, .v 13] <|
    .prim (.setf 2) [.v 10, .v 15] <|
    .jmp 0 false [.v 16]) (
    .jmp 0 false [.v 10])) 1 <|
  .prim (.fld 0) [.v 5] <|
  .prim (.bin .eql) [.v 13, .c (.int .i64 11)] <|
  .sub0 [tWant] (
   .ite (.v 14) (
    .prim (.fld 3) [.v 5] <|
    .prim (.idxn 8) [.v 15] <|
    .prim (.fld 0) [.v 1] <|
    .prim .get [.v 17, .v 16] <|
    .prim (.setf 2) [.v 12, .v 18] <|
    .prim (.fld 1) [.v 5] <|
    .prim (.idxn 8) [.v 20] <|
    .prim (.fld 0) [.v 1] <|
    .prim .get [.v 22, .v 21] <|
    .prim (.setf 3) [.v 19, .v 23] <|
    .jmp 0 false [.v 24]) (
    .jmp 0 false [.v 12])) 1 <|
  .prim (.fld 0) [.v 5] <|
  .prim (.bin .eql) [.v 16, .c (.int .i64 15)] <|
  .subp [tWant] (
   .ite (.v 17) (
    .prim (.setf 0) [.v 15, .c (.int .i64 4)] <|
    .jmp 0 false [.v 18]) (
    .jmp 0 false [.v 15])) 1 <|
  .jmp 0 false [.v 18])
theorem a_r03_Wants : treeOf cx 12 58 = some A_r03_Wants.erase := by kernel_rfl
theorem k_r03_Wants : FnOk cx 12 noC 58 F_r03_Wants := fn_ok (t := A_r03_Wants) a_r03_Wants (fun _ => rfl) (ok_of [(56, F_r03_Right), (90, F_r03_Place)] (by kernel_rfl) (.cons k_r03_Right (.cons k_r03_Place .nil))) (fun x => by kernel_rfl)

/-! 60: backstay/backstayref03.Done -/
noncomputable def r03_Done (p0 : List Ins) (p1 : Core) (p2 : Int) : Option Core :=
  (
    (r03_Right p0 p1).bind fun v3 =>
    if !v3 then
      some (true)
    else
      some ((Core.Halted p1)) : Option Bool).bind fun v3 =>
  if v3 then
    some (p1)
  else
    (getO p0 (Core.PC p1)).bind fun v5 =>
    if decide ((Ins.Op v5) = (16 : Int)) then
      some ((Core.setHalted p1 true))
    else
      (
        if decide ((Ins.Op v5) = (13 : Int)) then
          some (true)
        else
          if decide ((Ins.Op v5) = (14 : Int)) then
            (idxO (8 : Int) (Ins.A v5)).bind fun v13 =>
            (getO (Core.Regs p1) v13).bind fun v15 =>
            some ((decide (v15 = (0 : Int))))
          else
            some (false) : Option Bool).bind fun v8 =>
      if v8 then
        some ((Core.setPC p1 (w64 (Ins.K v5))))
      else
        let v11 : Core := Core.setPC p1 (w64 ((Core.PC p1) + (1 : Int)))
        (
          if decide ((Ins.Op v5) = (1 : Int)) then
            (idxO (8 : Int) (Ins.A v5)).bind fun v16 =>
            (setO (Core.Regs v11) v16 (Ins.K v5)).bind fun v18 =>
            some ((Core.setRegs v11 v18))
          else
            some (v11) : Option Core).bind fun v14 =>
        (
          if (decide ((2 : Int) ≤ (Ins.Op v5))) && (decide ((Ins.Op v5) ≤ (8 : Int))) then
            (idxO (8 : Int) (Ins.B v5)).bind fun v19 =>
            (getO (Core.Regs v14) v19).bind fun v21 =>
            (idxO (8 : Int) (Ins.C v5)).bind fun v23 =>
            (getO (Core.Regs v14) v23).bind fun v25 =>
            (r01_Do (Ins.Op v5) v21 v25).bind fun v26 =>
            (idxO (8 : Int) (Ins.A v5)).bind fun v28 =>
            (setO (Core.Regs v14) v28 v26.1).bind fun v30 =>
            some ((Core.setRegs v14 v30))
          else
            some (v14) : Option Core).bind fun v16 =>
        (
          if (decide ((Ins.Op v5) = (9 : Int))) || (decide ((Ins.Op v5) = (11 : Int))) then
            (idxO (8 : Int) (Ins.A v5)).bind fun v19 =>
            (setO (Core.Regs v16) v19 p2).bind fun v21 =>
            some ((Core.setRegs v16 v21))
          else
            some (v16) : Option Core).bind fun v18 =>
        some (v18)
noncomputable def F_r03_Done : FnT := ⟨[.sl tIns, tCore, .int .u32], [tCore], fun x => r03_Done x.1 x.2.1 x.2.2⟩
noncomputable def A_r03_Done : TA :=
 .sub0 [.bool] (
  .call 56 F_r03_Right [.v 0, .v 1] 1 <|
  .prim (.un .not) [.v 3] <|
  .ite (.v 4) (
   .jmp 0 false [.c (.bool true)]) (
   .prim (.fld 2) [.v 1] <|
   .jmp 0 false [.v 5])) 1 <|
 .ite (.v 3) (
  .jmp 0 false [.v 1]) (
  .prim (.fld 1) [.v 1] <|
  .prim .get [.v 0, .v 4] <|
  .prim (.fld 0) [.v 5] <|
  .prim (.bin .eql) [.v 6, .c (.int .i64 16)] <|
  .ite (.v 7) (
   .prim (.setf 2) [.v 1, .c (.bool true)] <|
   .jmp 0 false [.v 8]) (
   .sub0 [.bool] (
    .prim (.fld 0) [.v 5] <|
    .prim (.bin .eql) [.v 8, .c (.int .i64 13)] <|
    .ite (.v 9) (
     .jmp 0 false [.c (.bool true)]) (
     .prim (.fld 0) [.v 5] <|
     .prim (.bin .eql) [.v 10, .c (.int .i64 14)] <|
     .ite (.v 11) (
      .prim (.fld 1) [.v 5] <|
      .prim (.idxn 8) [.v 12] <|
      .prim (.fld 0) [.v 1] <|
      .prim .get [.v 14, .v 13] <|
      .prim (.bin .eql) [.v 15, .c (.int .u32 0)] <|
      .jmp 0 false [.v 16]) (
      .jmp 0 false [.c (.bool false)]))) 1 <|
   .ite (.v 8) (
    .prim (.fld 4) [.v 5] <|
    .prim (.conv .i64) [.v 9] <|
    .prim (.setf 1) [.v 1, .v 10] <|
    .jmp 0 false [.v 11]) (
    .prim (.fld 1) [.v 1] <|
    .prim (.bin .add) [.v 9, .c (.int .i64 1)] <|
    .prim (.setf 1) [.v 1, .v 10] <|
    .prim (.fld 0) [.v 5] <|
    .prim (.bin .eql) [.v 12, .c (.int .i64 1)] <|
    .sub0 [tCore] (
     .ite (.v 13) (
      .prim (.fld 1) [.v 5] <|
      .prim (.fld 4) [.v 5] <|
      .prim (.idxn 8) [.v 14] <|
      .prim (.fld 0) [.v 11] <|
      .prim .set [.v 17, .v 16, .v 15] <|
      .prim (.setf 0) [.v 11, .v 18] <|
      .jmp 0 false [.v 19]) (
      .jmp 0 false [.v 11])) 1 <|
    .subp [.bool] (
     .prim (.fld 0) [.v 5] <|
     .prim (.bin .geq) [.v 15, .c (.int .i64 2)] <|
     .ite (.v 16) (
      .prim (.fld 0) [.v 5] <|
      .prim (.bin .leq) [.v 17, .c (.int .i64 8)] <|
      .jmp 0 false [.v 18]) (
      .jmp 0 false [.c (.bool false)])) 1 <|
    .sub0 [tCore] (
     .ite (.v 15) (
      .prim (.fld 1) [.v 5] <|
      .prim (.fld 0) [.v 5] <|
      .prim (.fld 2) [.v 5] <|
      .prim (.idxn 8) [.v 18] <|
      .prim (.fld 0) [.v 14] <|
      .prim .get [.v 20, .v 19] <|
      .prim (.fld 3) [.v 5] <|
      .prim (.idxn 8) [.v 22] <|
      .prim (.fld 0) [.v 14] <|
      .prim .get [.v 24, .v 23] <|
      .call 92 F_r01_Do [.v 17, .v 21, .v 25] 2 <|
      .prim (.idxn 8) [.v 16] <|
      .prim (.fld 0) [.v 14] <|
      .prim .set [.v 29, .v 28, .v 26] <|
      .prim (.setf 0) [.v 14, .v 30] <|
      .jmp 0 false [.v 31]) (
      .jmp 0 false [.v 14])) 1 <|
    .subp [.bool] (
     .prim (.fld 0) [.v 5] <|
     .prim (.bin .eql) [.v 17, .c (.int .i64 9)] <|
     .ite (.v 18) (
      .jmp 0 false [.c (.bool true)]) (
      .prim (.fld 0) [.v 5] <|
      .prim (.bin .eql) [.v 19, .c (.int .i64 11)] <|
      .jmp 0 false [.v 20])) 1 <|
    .sub0 [tCore] (
     .ite (.v 17) (
      .prim (.fld 1) [.v 5] <|
      .prim (.idxn 8) [.v 18] <|
      .prim (.fld 0) [.v 16] <|
      .prim .set [.v 20, .v 19, .v 2] <|
      .prim (.setf 0) [.v 16, .v 21] <|
      .jmp 0 false [.v 22]) (
      .jmp 0 false [.v 16])) 1 <|
    .jmp 0 false [.v 18])))
theorem a_r03_Done : treeOf cx 12 60 = some A_r03_Done.erase := by kernel_rfl
theorem k_r03_Done : FnOk cx 12 noC 60 F_r03_Done := fn_ok (t := A_r03_Done) a_r03_Done (fun _ => rfl) (ok_of [(56, F_r03_Right), (92, F_r01_Do)] (by kernel_rfl) (.cons k_r03_Right (.cons k_r01_Do .nil))) (fun x => by kernel_rfl)

/-! 57: backstay/core.Wants -/
noncomputable def core_Wants (p0 : List Ins) (p1 : Core) (p2 : Int) : Option Want :=
  (
    (core_Right p0 p1).bind fun v3 =>
    if !v3 then
      some (true)
    else
      if Core.Halted p1 then
        some (true)
      else
        (getO p0 (Core.PC p1)).bind fun v7 =>
        some ((decide ((Ins.Op v7) = (16 : Int)))) : Option Bool).bind fun v3 =>
  if v3 then
    some ((Want.mk (5 : Int) (0 : Int) (0 : Int) (0 : Int)))
  else
    (getO p0 (Core.PC p1)).bind fun v5 =>
    (idxO (8 : Int) (Ins.A v5)).bind fun v7 =>
    (getO (Core.Regs p1) v7).bind fun v9 =>
    (idxO (8 : Int) (Ins.B v5)).bind fun v11 =>
    (getO (Core.Regs p1) v11).bind fun v13 =>
    (word_Place v13 p2).bind fun v14 =>
    if decide ((Ins.Op v5) = (9 : Int)) then
      some ((Want.mk (1 : Int) v14 (0 : Int) (0 : Int)))
    else
      if decide ((Ins.Op v5) = (10 : Int)) then
        some ((Want.mk (2 : Int) v14 v9 (0 : Int)))
      else
        if decide ((Ins.Op v5) = (11 : Int)) then
          (idxO (8 : Int) (Ins.C v5)).bind fun v20 =>
          (getO (Core.Regs p1) v20).bind fun v22 =>
          some ((Want.mk (3 : Int) v14 v22 v9))
        else
          if decide ((Ins.Op v5) = (15 : Int)) then
            some ((Want.mk (4 : Int) (0 : Int) v9 (0 : Int)))
          else
            some ((Want.mk (0 : Int) (0 : Int) (0 : Int) (0 : Int)))
noncomputable def F_core_Wants : FnT := ⟨[.sl tIns, tCore, .int .i64], [tWant], fun x => core_Wants x.1 x.2.1 x.2.2⟩
noncomputable def A_core_Wants : TA :=
 .sub0 [.bool] (
  .call 55 F_core_Right [.v 0, .v 1] 1 <|
  .prim (.un .not) [.v 3] <|
  .ite (.v 4) (
   .jmp 0 false [.c (.bool true)]) (
   .prim (.fld 2) [.v 1] <|
   .ite (.v 5) (
    .jmp 0 false [.c (.bool true)]) (
    .prim (.fld 1) [.v 1] <|
    .prim .get [.v 0, .v 6] <|
    .prim (.fld 0) [.v 7] <|
    .prim (.bin .eql) [.v 8, .c (.int .i64 16)] <|
    .jmp 0 false [.v 9]))) 1 <|
 .ite (.v 3) (
  .jmp 0 false [.c (.agg [(.int .i64 5), (.int .i64 0), (.int .u32 0), (.int .u32 0)])]) (
  .prim (.fld 1) [.v 1] <|
  .prim .get [.v 0, .v 4] <|
  .prim (.fld 1) [.v 5] <|
  .prim (.idxn 8) [.v 6] <|
  .prim (.fld 0) [.v 1] <|
  .prim .get [.v 8, .v 7] <|
  .prim (.fld 2) [.v 5] <|
  .prim (.idxn 8) [.v 10] <|
  .prim (.fld 0) [.v 1] <|
  .prim .get [.v 12, .v 11] <|
  .call 89 F_word_Place [.v 13, .v 2] 1 <|
  .prim (.fld 0) [.v 5] <|
  .prim (.bin .eql) [.v 15, .c (.int .i64 9)] <|
  .ite (.v 16) (
   .mkS tsWant [.c (.int .i64 1), .v 14, .c (.int .u32 0), .c (.int .u32 0)] <|
   .jmp 0 false [.v 17]) (
   .prim (.bin .eql) [.v 15, .c (.int .i64 10)] <|
   .ite (.v 17) (
    .mkS tsWant [.c (.int .i64 2), .v 14, .v 9, .c (.int .u32 0)] <|
    .jmp 0 false [.v 18]) (
    .prim (.bin .eql) [.v 15, .c (.int .i64 11)] <|
    .ite (.v 18) (
     .prim (.fld 3) [.v 5] <|
     .prim (.idxn 8) [.v 19] <|
     .prim (.fld 0) [.v 1] <|
     .prim .get [.v 21, .v 20] <|
     .mkS tsWant [.c (.int .i64 3), .v 14, .v 22, .v 9] <|
     .jmp 0 false [.v 23]) (
     .prim (.bin .eql) [.v 15, .c (.int .i64 15)] <|
     .ite (.v 19) (
      .mkS tsWant [.c (.int .i64 4), .c (.int .i64 0), .v 9, .c (.int .u32 0)] <|
      .jmp 0 false [.v 20]) (
      .jmp 0 false [.c (.agg [(.int .i64 0), (.int .i64 0), (.int .u32 0), (.int .u32 0)])])))))
theorem a_core_Wants : treeOf cx 12 57 = some A_core_Wants.erase := by kernel_rfl
theorem k_core_Wants : FnOk cx 12 noC 57 F_core_Wants := fn_ok (t := A_core_Wants) a_core_Wants (fun _ => rfl) (ok_of [(55, F_core_Right), (89, F_word_Place)] (by kernel_rfl) (.cons k_core_Right (.cons k_word_Place .nil))) (fun x => by kernel_rfl)

/-! 59: backstay/core.Done -/
noncomputable def core_Done (p0 : List Ins) (p1 : Core) (p2 : Int) : Option Core :=
  (
    (core_Right p0 p1).bind fun v3 =>
    if !v3 then
      some (true)
    else
      some ((Core.Halted p1)) : Option Bool).bind fun v3 =>
  if v3 then
    some (p1)
  else
    (getO p0 (Core.PC p1)).bind fun v5 =>
    let v7 : Int := w64 ((Core.PC p1) + (1 : Int))
    (
      if decide ((Ins.Op v5) = (1 : Int)) then
        (idxO (8 : Int) (Ins.A v5)).bind fun v12 =>
        (setO (Core.Regs p1) v12 (Ins.K v5)).bind fun v14 =>
        some ((v7, Core.setRegs p1 v14))
      else
        let v10 : Bool := decide ((Ins.Op v5) = (9 : Int))
        (
          if bif v10 then v10 else decide ((Ins.Op v5) = (11 : Int)) then
            (idxO (8 : Int) (Ins.A v5)).bind fun v13 =>
            (setO (Core.Regs p1) v13 p2).bind fun v15 =>
            some ((v7, Core.setRegs p1 v15))
          else
            (
              if decide ((Ins.Op v5) = (13 : Int)) then
                some ((w64 (Ins.K v5), p1))
              else
                (
                  if decide ((Ins.Op v5) = (14 : Int)) then
                    (idxO (8 : Int) (Ins.A v5)).bind fun v15 =>
                    (getO (Core.Regs p1) v15).bind fun v17 =>
                    some ((bif decide (v17 = (0 : Int)) then w64 (Ins.K v5) else v7, p1))
                  else
                    (
                      if decide ((Ins.Op v5) = (16 : Int)) then
                        some ((Core.PC p1, Core.setHalted p1 true))
                      else
                        (idxO (8 : Int) (Ins.B v5)).bind fun v17 =>
                        (getO (Core.Regs p1) v17).bind fun v19 =>
                        (idxO (8 : Int) (Ins.C v5)).bind fun v21 =>
                        (getO (Core.Regs p1) v21).bind fun v23 =>
                        let v24 : (Int × Bool) := word_Do (Ins.Op v5) v19 v23
                        (
                          if v24.2 then
                            (idxO (8 : Int) (Ins.A v5)).bind fun v27 =>
                            (setO (Core.Regs p1) v27 v24.1).bind fun v29 =>
                            some ((Core.setRegs p1 v29))
                          else
                            some (p1) : Option Core).bind fun v26 =>
                        some ((v7, v26)) : Option (Int × Core)).bind fun v15 =>
                    some ((v15.1, v15.2)) : Option (Int × Core)).bind fun v14 =>
                some ((v14.1, v14.2)) : Option (Int × Core)).bind fun v13 =>
            some ((v13.1, v13.2)) : Option (Int × Core)).bind fun v12 =>
        some ((v12.1, v12.2)) : Option (Int × Core)).bind fun v10 =>
    some ((Core.setPC v10.2 v10.1))
noncomputable def F_core_Done : FnT := ⟨[.sl tIns, tCore, .int .u32], [tCore], fun x => core_Done x.1 x.2.1 x.2.2⟩
noncomputable def A_core_Done : TA :=
 .sub0 [.bool] (
  .call 55 F_core_Right [.v 0, .v 1] 1 <|
  .prim (.un .not) [.v 3] <|
  .ite (.v 4) (
   .jmp 0 false [.c (.bool true)]) (
   .prim (.fld 2) [.v 1] <|
   .jmp 0 false [.v 5])) 1 <|
 .ite (.v 3) (
  .jmp 0 false [.v 1]) (
  .prim (.fld 1) [.v 1] <|
  .prim .get [.v 0, .v 4] <|
  .prim (.fld 1) [.v 1] <|
  .prim (.bin .add) [.v 6, .c (.int .i64 1)] <|
  .prim (.fld 0) [.v 5] <|
  .prim (.bin .eql) [.v 8, .c (.int .i64 1)] <|
  .sub0 [.int .i64, tCore] (
   .ite (.v 9) (
    .prim (.fld 1) [.v 5] <|
    .prim (.fld 4) [.v 5] <|
    .prim (.idxn 8) [.v 10] <|
    .prim (.fld 0) [.v 1] <|
    .prim .set [.v 13, .v 12, .v 11] <|
    .prim (.setf 0) [.v 1, .v 14] <|
    .jmp 0 false [.v 7, .v 15]) (
    .prim (.bin .eql) [.v 8, .c (.int .i64 9)] <|
    .subp [.bool] (
     .ite (.v 10) (
      .jmp 0 false [.v 10]) (
      .prim (.bin .eql) [.v 8, .c (.int .i64 11)] <|
      .jmp 0 false [.v 11])) 1 <|
    .sub0 [.int .i64, tCore] (
     .ite (.v 11) (
      .prim (.fld 1) [.v 5] <|
      .prim (.idxn 8) [.v 12] <|
      .prim (.fld 0) [.v 1] <|
      .prim .set [.v 14, .v 13, .v 2] <|
      .prim (.setf 0) [.v 1, .v 15] <|
      .jmp 0 false [.v 7, .v 16]) (
      .prim (.bin .eql) [.v 8, .c (.int .i64 13)] <|
      .sub0 [.int .i64, tCore] (
       .ite (.v 12) (
        .prim (.fld 4) [.v 5] <|
        .prim (.conv .i64) [.v 13] <|
        .jmp 0 false [.v 14, .v 1]) (
        .prim (.bin .eql) [.v 8, .c (.int .i64 14)] <|
        .sub0 [.int .i64, tCore] (
         .ite (.v 13) (
          .prim (.fld 1) [.v 5] <|
          .prim (.idxn 8) [.v 14] <|
          .prim (.fld 0) [.v 1] <|
          .prim .get [.v 16, .v 15] <|
          .prim (.bin .eql) [.v 17, .c (.int .u32 0)] <|
          .subp [.int .i64] (
           .ite (.v 18) (
            .prim (.fld 4) [.v 5] <|
            .prim (.conv .i64) [.v 19] <|
            .jmp 0 false [.v 20]) (
            .jmp 0 false [.v 7])) 1 <|
          .jmp 0 false [.v 19, .v 1]) (
          .prim (.bin .eql) [.v 8, .c (.int .i64 16)] <|
          .sub0 [.int .i64, tCore] (
           .ite (.v 14) (
            .prim (.fld 1) [.v 1] <|
            .prim (.setf 2) [.v 1, .c (.bool true)] <|
            .jmp 0 false [.v 15, .v 16]) (
            .prim (.fld 0) [.v 5] <|
            .prim (.fld 2) [.v 5] <|
            .prim (.idxn 8) [.v 16] <|
            .prim (.fld 0) [.v 1] <|
            .prim .get [.v 18, .v 17] <|
            .prim (.fld 3) [.v 5] <|
            .prim (.idxn 8) [.v 20] <|
            .prim (.fld 0) [.v 1] <|
            .prim .get [.v 22, .v 21] <|
            .callp 91 F_word_Do [.v 15, .v 19, .v 23] 2 <|
            .sub0 [tCore] (
             .ite (.v 25) (
              .prim (.fld 1) [.v 5] <|
              .prim (.idxn 8) [.v 26] <|
              .prim (.fld 0) [.v 1] <|
              .prim .set [.v 28, .v 27, .v 24] <|
              .prim (.setf 0) [.v 1, .v 29] <|
              .jmp 0 false [.v 30]) (
              .jmp 0 false [.v 1])) 1 <|
            .jmp 0 false [.v 7, .v 26])) 2 <|
          .jmp 0 false [.v 15, .v 16])) 2 <|
        .jmp 0 false [.v 14, .v 15])) 2 <|
      .jmp 0 false [.v 13, .v 14])) 2 <|
    .jmp 0 false [.v 12, .v 13])) 2 <|
  .prim (.setf 1) [.v 11, .v 10] <|
  .jmp 0 false [.v 12])
theorem a_core_Done : treeOf cx 12 59 = some A_core_Done.erase := by kernel_rfl
theorem k_core_Done : FnOk cx 12 noC 59 F_core_Done := fn_ok (t := A_core_Done) a_core_Done (fun _ => rfl) (ok_of [(55, F_core_Right), (91, F_word_Do.fn)] (by kernel_rfl) (.cons k_core_Right (.cons k_word_Do .nil))) (fun x => by kernel_rfl)

/-! 54: backstay/backstaylaw03.awake -/
def l03_awake : Bool := true
def F_l03_awake : PnT := ⟨[], [.bool], fun _ => l03_awake⟩
theorem k_l03_awake : FnOk cx 12 noC 54 F_l03_awake.fn := fun ds x r hx hr => by
  have hx : ds = [] := hx
  subst hx
  exact ⟨[.bool true], call_now 100 12 (by kernel_rfl), .bool true, rfl, congrArg D.bool (Option.some.inj hr)⟩

end Go.Proofs.Ytflnpiknckdmfaa
