/- The types of this cut, and its functions as functions of plain typed data. Printed by a program of this claim's prover; each is checked here to be what the executor makes of the code. -/
import Derived.Test.YtflnpiknckdmfaaProg
import Derived.Test.YtflnpiknckdmfaaLim
import Derived.KernelRfl
set_option linter.unusedVariables false
set_option maxRecDepth 100000
namespace Go.Proofs.Ytflnpiknckdmfaa
open Go.SX
abbrev tsl07_Put : List Ty := [.int .u8, .int .u8, .int .u32]
abbrev tl07_Put : Ty := .st tsl07_Put
abbrev l07_Put : Type := Int × Int × Int
def l07_Put.mk (Bank : Int) (At : Int) (Word : Int) : l07_Put := (Bank, At, Word)
def l07_Put.Bank (x : l07_Put) : Int := x.1
def l07_Put.At (x : l07_Put) : Int := x.2.1
def l07_Put.Word (x : l07_Put) : Int := x.2.2
def l07_Put.setBank (x : l07_Put) (v : Int) : l07_Put := (v, x.2.1, x.2.2)
def l07_Put.setAt (x : l07_Put) (v : Int) : l07_Put := (x.1, v, x.2.2)
def l07_Put.setWord (x : l07_Put) (v : Int) : l07_Put := (x.1, x.2.1, v)
@[simp] theorem l07_Put.Bank_mk (Bank : Int) (At : Int) (Word : Int) : l07_Put.Bank (l07_Put.mk Bank At Word) = Bank := rfl
@[simp] theorem l07_Put.At_mk (Bank : Int) (At : Int) (Word : Int) : l07_Put.At (l07_Put.mk Bank At Word) = At := rfl
@[simp] theorem l07_Put.Word_mk (Bank : Int) (At : Int) (Word : Int) : l07_Put.Word (l07_Put.mk Bank At Word) = Word := rfl
@[simp] theorem l07_Put.setBank_eq (x : l07_Put) (v : Int) : l07_Put.setBank x v = l07_Put.mk v (l07_Put.At x) (l07_Put.Word x) := rfl
@[simp] theorem l07_Put.setAt_eq (x : l07_Put) (v : Int) : l07_Put.setAt x v = l07_Put.mk (l07_Put.Bank x) v (l07_Put.Word x) := rfl
@[simp] theorem l07_Put.setWord_eq (x : l07_Put) (v : Int) : l07_Put.setWord x v = l07_Put.mk (l07_Put.Bank x) (l07_Put.At x) v := rfl
@[simp] theorem l07_Put.eta (x : l07_Put) : l07_Put.mk (l07_Put.Bank x) (l07_Put.At x) (l07_Put.Word x) = x := rfl

abbrev tsEvent : List Ty := [.int .i64, .int .i64, .int .i64]
abbrev tEvent : Ty := .st tsEvent
abbrev Event : Type := Int × Int × Int
def Event.mk (Kind : Int) (N : Int) (K : Int) : Event := (Kind, N, K)
def Event.Kind (x : Event) : Int := x.1
def Event.N (x : Event) : Int := x.2.1
def Event.K (x : Event) : Int := x.2.2
def Event.setKind (x : Event) (v : Int) : Event := (v, x.2.1, x.2.2)
def Event.setN (x : Event) (v : Int) : Event := (x.1, v, x.2.2)
def Event.setK (x : Event) (v : Int) : Event := (x.1, x.2.1, v)
@[simp] theorem Event.Kind_mk (Kind : Int) (N : Int) (K : Int) : Event.Kind (Event.mk Kind N K) = Kind := rfl
@[simp] theorem Event.N_mk (Kind : Int) (N : Int) (K : Int) : Event.N (Event.mk Kind N K) = N := rfl
@[simp] theorem Event.K_mk (Kind : Int) (N : Int) (K : Int) : Event.K (Event.mk Kind N K) = K := rfl
@[simp] theorem Event.setKind_eq (x : Event) (v : Int) : Event.setKind x v = Event.mk v (Event.N x) (Event.K x) := rfl
@[simp] theorem Event.setN_eq (x : Event) (v : Int) : Event.setN x v = Event.mk (Event.Kind x) v (Event.K x) := rfl
@[simp] theorem Event.setK_eq (x : Event) (v : Int) : Event.setK x v = Event.mk (Event.Kind x) (Event.N x) v := rfl
@[simp] theorem Event.eta (x : Event) : Event.mk (Event.Kind x) (Event.N x) (Event.K x) = x := rfl

abbrev tsWant : List Ty := [.int .i64, .int .i64, .int .u32, .int .u32]
abbrev tWant : Ty := .st tsWant
abbrev Want : Type := Int × Int × Int × Int
def Want.mk (Kind : Int) (At : Int) (Val : Int) (Old : Int) : Want := (Kind, At, Val, Old)
def Want.Kind (x : Want) : Int := x.1
def Want.At (x : Want) : Int := x.2.1
def Want.Val (x : Want) : Int := x.2.2.1
def Want.Old (x : Want) : Int := x.2.2.2
def Want.setKind (x : Want) (v : Int) : Want := (v, x.2.1, x.2.2.1, x.2.2.2)
def Want.setAt (x : Want) (v : Int) : Want := (x.1, v, x.2.2.1, x.2.2.2)
def Want.setVal (x : Want) (v : Int) : Want := (x.1, x.2.1, v, x.2.2.2)
def Want.setOld (x : Want) (v : Int) : Want := (x.1, x.2.1, x.2.2.1, v)
@[simp] theorem Want.Kind_mk (Kind : Int) (At : Int) (Val : Int) (Old : Int) : Want.Kind (Want.mk Kind At Val Old) = Kind := rfl
@[simp] theorem Want.At_mk (Kind : Int) (At : Int) (Val : Int) (Old : Int) : Want.At (Want.mk Kind At Val Old) = At := rfl
@[simp] theorem Want.Val_mk (Kind : Int) (At : Int) (Val : Int) (Old : Int) : Want.Val (Want.mk Kind At Val Old) = Val := rfl
@[simp] theorem Want.Old_mk (Kind : Int) (At : Int) (Val : Int) (Old : Int) : Want.Old (Want.mk Kind At Val Old) = Old := rfl
@[simp] theorem Want.setKind_eq (x : Want) (v : Int) : Want.setKind x v = Want.mk v (Want.At x) (Want.Val x) (Want.Old x) := rfl
@[simp] theorem Want.setAt_eq (x : Want) (v : Int) : Want.setAt x v = Want.mk (Want.Kind x) v (Want.Val x) (Want.Old x) := rfl
@[simp] theorem Want.setVal_eq (x : Want) (v : Int) : Want.setVal x v = Want.mk (Want.Kind x) (Want.At x) v (Want.Old x) := rfl
@[simp] theorem Want.setOld_eq (x : Want) (v : Int) : Want.setOld x v = Want.mk (Want.Kind x) (Want.At x) (Want.Val x) v := rfl
@[simp] theorem Want.eta (x : Want) : Want.mk (Want.Kind x) (Want.At x) (Want.Val x) (Want.Old x) = x := rfl

abbrev tsDeed : List Ty := [.int .i64, .int .i64, .int .i64, .int .u32, .int .u32]
abbrev tDeed : Ty := .st tsDeed
abbrev Deed : Type := Int × Int × Int × Int × Int
def Deed.mk (Core : Int) (Kind : Int) (At : Int) (Was : Int) (Val : Int) : Deed := (Core, Kind, At, Was, Val)
def Deed.Core (x : Deed) : Int := x.1
def Deed.Kind (x : Deed) : Int := x.2.1
def Deed.At (x : Deed) : Int := x.2.2.1
def Deed.Was (x : Deed) : Int := x.2.2.2.1
def Deed.Val (x : Deed) : Int := x.2.2.2.2
def Deed.setCore (x : Deed) (v : Int) : Deed := (v, x.2.1, x.2.2.1, x.2.2.2.1, x.2.2.2.2)
def Deed.setKind (x : Deed) (v : Int) : Deed := (x.1, v, x.2.2.1, x.2.2.2.1, x.2.2.2.2)
def Deed.setAt (x : Deed) (v : Int) : Deed := (x.1, x.2.1, v, x.2.2.2.1, x.2.2.2.2)
def Deed.setWas (x : Deed) (v : Int) : Deed := (x.1, x.2.1, x.2.2.1, v, x.2.2.2.2)
def Deed.setVal (x : Deed) (v : Int) : Deed := (x.1, x.2.1, x.2.2.1, x.2.2.2.1, v)
@[simp] theorem Deed.Core_mk (Core : Int) (Kind : Int) (At : Int) (Was : Int) (Val : Int) : Deed.Core (Deed.mk Core Kind At Was Val) = Core := rfl
@[simp] theorem Deed.Kind_mk (Core : Int) (Kind : Int) (At : Int) (Was : Int) (Val : Int) : Deed.Kind (Deed.mk Core Kind At Was Val) = Kind := rfl
@[simp] theorem Deed.At_mk (Core : Int) (Kind : Int) (At : Int) (Was : Int) (Val : Int) : Deed.At (Deed.mk Core Kind At Was Val) = At := rfl
@[simp] theorem Deed.Was_mk (Core : Int) (Kind : Int) (At : Int) (Was : Int) (Val : Int) : Deed.Was (Deed.mk Core Kind At Was Val) = Was := rfl
@[simp] theorem Deed.Val_mk (Core : Int) (Kind : Int) (At : Int) (Was : Int) (Val : Int) : Deed.Val (Deed.mk Core Kind At Was Val) = Val := rfl
@[simp] theorem Deed.setCore_eq (x : Deed) (v : Int) : Deed.setCore x v = Deed.mk v (Deed.Kind x) (Deed.At x) (Deed.Was x) (Deed.Val x) := rfl
@[simp] theorem Deed.setKind_eq (x : Deed) (v : Int) : Deed.setKind x v = Deed.mk (Deed.Core x) v (Deed.At x) (Deed.Was x) (Deed.Val x) := rfl
@[simp] theorem Deed.setAt_eq (x : Deed) (v : Int) : Deed.setAt x v = Deed.mk (Deed.Core x) (Deed.Kind x) v (Deed.Was x) (Deed.Val x) := rfl
@[simp] theorem Deed.setWas_eq (x : Deed) (v : Int) : Deed.setWas x v = Deed.mk (Deed.Core x) (Deed.Kind x) (Deed.At x) v (Deed.Val x) := rfl
@[simp] theorem Deed.setVal_eq (x : Deed) (v : Int) : Deed.setVal x v = Deed.mk (Deed.Core x) (Deed.Kind x) (Deed.At x) (Deed.Was x) v := rfl
@[simp] theorem Deed.eta (x : Deed) : Deed.mk (Deed.Core x) (Deed.Kind x) (Deed.At x) (Deed.Was x) (Deed.Val x) = x := rfl

abbrev tsIns : List Ty := [.int .i64, .int .i64, .int .i64, .int .i64, .int .u32]
abbrev tIns : Ty := .st tsIns
abbrev Ins : Type := Int × Int × Int × Int × Int
def Ins.mk (Op : Int) (A : Int) (B : Int) (C : Int) (K : Int) : Ins := (Op, A, B, C, K)
def Ins.Op (x : Ins) : Int := x.1
def Ins.A (x : Ins) : Int := x.2.1
def Ins.B (x : Ins) : Int := x.2.2.1
def Ins.C (x : Ins) : Int := x.2.2.2.1
def Ins.K (x : Ins) : Int := x.2.2.2.2
def Ins.setOp (x : Ins) (v : Int) : Ins := (v, x.2.1, x.2.2.1, x.2.2.2.1, x.2.2.2.2)
def Ins.setA (x : Ins) (v : Int) : Ins := (x.1, v, x.2.2.1, x.2.2.2.1, x.2.2.2.2)
def Ins.setB (x : Ins) (v : Int) : Ins := (x.1, x.2.1, v, x.2.2.2.1, x.2.2.2.2)
def Ins.setC (x : Ins) (v : Int) : Ins := (x.1, x.2.1, x.2.2.1, v, x.2.2.2.2)
def Ins.setK (x : Ins) (v : Int) : Ins := (x.1, x.2.1, x.2.2.1, x.2.2.2.1, v)
@[simp] theorem Ins.Op_mk (Op : Int) (A : Int) (B : Int) (C : Int) (K : Int) : Ins.Op (Ins.mk Op A B C K) = Op := rfl
@[simp] theorem Ins.A_mk (Op : Int) (A : Int) (B : Int) (C : Int) (K : Int) : Ins.A (Ins.mk Op A B C K) = A := rfl
@[simp] theorem Ins.B_mk (Op : Int) (A : Int) (B : Int) (C : Int) (K : Int) : Ins.B (Ins.mk Op A B C K) = B := rfl
@[simp] theorem Ins.C_mk (Op : Int) (A : Int) (B : Int) (C : Int) (K : Int) : Ins.C (Ins.mk Op A B C K) = C := rfl
@[simp] theorem Ins.K_mk (Op : Int) (A : Int) (B : Int) (C : Int) (K : Int) : Ins.K (Ins.mk Op A B C K) = K := rfl
@[simp] theorem Ins.setOp_eq (x : Ins) (v : Int) : Ins.setOp x v = Ins.mk v (Ins.A x) (Ins.B x) (Ins.C x) (Ins.K x) := rfl
@[simp] theorem Ins.setA_eq (x : Ins) (v : Int) : Ins.setA x v = Ins.mk (Ins.Op x) v (Ins.B x) (Ins.C x) (Ins.K x) := rfl
@[simp] theorem Ins.setB_eq (x : Ins) (v : Int) : Ins.setB x v = Ins.mk (Ins.Op x) (Ins.A x) v (Ins.C x) (Ins.K x) := rfl
@[simp] theorem Ins.setC_eq (x : Ins) (v : Int) : Ins.setC x v = Ins.mk (Ins.Op x) (Ins.A x) (Ins.B x) v (Ins.K x) := rfl
@[simp] theorem Ins.setK_eq (x : Ins) (v : Int) : Ins.setK x v = Ins.mk (Ins.Op x) (Ins.A x) (Ins.B x) (Ins.C x) v := rfl
@[simp] theorem Ins.eta (x : Ins) : Ins.mk (Ins.Op x) (Ins.A x) (Ins.B x) (Ins.C x) (Ins.K x) = x := rfl

abbrev tsruntime_errorAddressString : List Ty := [.str, .int .u64]
abbrev truntime_errorAddressString : Ty := .st tsruntime_errorAddressString
abbrev runtime_errorAddressString : Type := (List Int) × Int
def runtime_errorAddressString.mk (msg : List Int) (addr : Int) : runtime_errorAddressString := (msg, addr)
def runtime_errorAddressString.msg (x : runtime_errorAddressString) : List Int := x.1
def runtime_errorAddressString.addr (x : runtime_errorAddressString) : Int := x.2
def runtime_errorAddressString.setmsg (x : runtime_errorAddressString) (v : List Int) : runtime_errorAddressString := (v, x.2)
def runtime_errorAddressString.setaddr (x : runtime_errorAddressString) (v : Int) : runtime_errorAddressString := (x.1, v)
@[simp] theorem runtime_errorAddressString.msg_mk (msg : List Int) (addr : Int) : runtime_errorAddressString.msg (runtime_errorAddressString.mk msg addr) = msg := rfl
@[simp] theorem runtime_errorAddressString.addr_mk (msg : List Int) (addr : Int) : runtime_errorAddressString.addr (runtime_errorAddressString.mk msg addr) = addr := rfl
@[simp] theorem runtime_errorAddressString.setmsg_eq (x : runtime_errorAddressString) (v : List Int) : runtime_errorAddressString.setmsg x v = runtime_errorAddressString.mk v (runtime_errorAddressString.addr x) := rfl
@[simp] theorem runtime_errorAddressString.setaddr_eq (x : runtime_errorAddressString) (v : Int) : runtime_errorAddressString.setaddr x v = runtime_errorAddressString.mk (runtime_errorAddressString.msg x) v := rfl
@[simp] theorem runtime_errorAddressString.eta (x : runtime_errorAddressString) : runtime_errorAddressString.mk (runtime_errorAddressString.msg x) (runtime_errorAddressString.addr x) = x := rfl

abbrev tsruntime_boundsError : List Ty := [.int .i64, .int .i64, .bool, .int .u8]
abbrev truntime_boundsError : Ty := .st tsruntime_boundsError
abbrev runtime_boundsError : Type := Int × Int × Bool × Int
def runtime_boundsError.mk (x : Int) (y : Int) (signed : Bool) (code : Int) : runtime_boundsError := (x, y, signed, code)
def runtime_boundsError.x (x : runtime_boundsError) : Int := x.1
def runtime_boundsError.y (x : runtime_boundsError) : Int := x.2.1
def runtime_boundsError.signed (x : runtime_boundsError) : Bool := x.2.2.1
def runtime_boundsError.code (x : runtime_boundsError) : Int := x.2.2.2
def runtime_boundsError.setx (x : runtime_boundsError) (v : Int) : runtime_boundsError := (v, x.2.1, x.2.2.1, x.2.2.2)
def runtime_boundsError.sety (x : runtime_boundsError) (v : Int) : runtime_boundsError := (x.1, v, x.2.2.1, x.2.2.2)
def runtime_boundsError.setsigned (x : runtime_boundsError) (v : Bool) : runtime_boundsError := (x.1, x.2.1, v, x.2.2.2)
def runtime_boundsError.setcode (x : runtime_boundsError) (v : Int) : runtime_boundsError := (x.1, x.2.1, x.2.2.1, v)
@[simp] theorem runtime_boundsError.x_mk (x : Int) (y : Int) (signed : Bool) (code : Int) : runtime_boundsError.x (runtime_boundsError.mk x y signed code) = x := rfl
@[simp] theorem runtime_boundsError.y_mk (x : Int) (y : Int) (signed : Bool) (code : Int) : runtime_boundsError.y (runtime_boundsError.mk x y signed code) = y := rfl
@[simp] theorem runtime_boundsError.signed_mk (x : Int) (y : Int) (signed : Bool) (code : Int) : runtime_boundsError.signed (runtime_boundsError.mk x y signed code) = signed := rfl
@[simp] theorem runtime_boundsError.code_mk (x : Int) (y : Int) (signed : Bool) (code : Int) : runtime_boundsError.code (runtime_boundsError.mk x y signed code) = code := rfl
@[simp] theorem runtime_boundsError.setx_eq (x : runtime_boundsError) (v : Int) : runtime_boundsError.setx x v = runtime_boundsError.mk v (runtime_boundsError.y x) (runtime_boundsError.signed x) (runtime_boundsError.code x) := rfl
@[simp] theorem runtime_boundsError.sety_eq (x : runtime_boundsError) (v : Int) : runtime_boundsError.sety x v = runtime_boundsError.mk (runtime_boundsError.x x) v (runtime_boundsError.signed x) (runtime_boundsError.code x) := rfl
@[simp] theorem runtime_boundsError.setsigned_eq (x : runtime_boundsError) (v : Bool) : runtime_boundsError.setsigned x v = runtime_boundsError.mk (runtime_boundsError.x x) (runtime_boundsError.y x) v (runtime_boundsError.code x) := rfl
@[simp] theorem runtime_boundsError.setcode_eq (x : runtime_boundsError) (v : Int) : runtime_boundsError.setcode x v = runtime_boundsError.mk (runtime_boundsError.x x) (runtime_boundsError.y x) (runtime_boundsError.signed x) v := rfl
@[simp] theorem runtime_boundsError.eta (x : runtime_boundsError) : runtime_boundsError.mk (runtime_boundsError.x x) (runtime_boundsError.y x) (runtime_boundsError.signed x) (runtime_boundsError.code x) = x := rfl

abbrev tsCore : List Ty := [.arr 8 (.int .u32), .int .i64, .bool]
abbrev tCore : Ty := .st tsCore
abbrev Core : Type := (List Int) × Int × Bool
def Core.mk (Regs : List Int) (PC : Int) (Halted : Bool) : Core := (Regs, PC, Halted)
def Core.Regs (x : Core) : List Int := x.1
def Core.PC (x : Core) : Int := x.2.1
def Core.Halted (x : Core) : Bool := x.2.2
def Core.setRegs (x : Core) (v : List Int) : Core := (v, x.2.1, x.2.2)
def Core.setPC (x : Core) (v : Int) : Core := (x.1, v, x.2.2)
def Core.setHalted (x : Core) (v : Bool) : Core := (x.1, x.2.1, v)
@[simp] theorem Core.Regs_mk (Regs : List Int) (PC : Int) (Halted : Bool) : Core.Regs (Core.mk Regs PC Halted) = Regs := rfl
@[simp] theorem Core.PC_mk (Regs : List Int) (PC : Int) (Halted : Bool) : Core.PC (Core.mk Regs PC Halted) = PC := rfl
@[simp] theorem Core.Halted_mk (Regs : List Int) (PC : Int) (Halted : Bool) : Core.Halted (Core.mk Regs PC Halted) = Halted := rfl
@[simp] theorem Core.setRegs_eq (x : Core) (v : List Int) : Core.setRegs x v = Core.mk v (Core.PC x) (Core.Halted x) := rfl
@[simp] theorem Core.setPC_eq (x : Core) (v : Int) : Core.setPC x v = Core.mk (Core.Regs x) v (Core.Halted x) := rfl
@[simp] theorem Core.setHalted_eq (x : Core) (v : Bool) : Core.setHalted x v = Core.mk (Core.Regs x) (Core.PC x) v := rfl
@[simp] theorem Core.eta (x : Core) : Core.mk (Core.Regs x) (Core.PC x) (Core.Halted x) = x := rfl

abbrev tsBanks : List Ty := [.sl (.sl (.int .u32)), .sl (.int .u32), .int .i64]
abbrev tBanks : Ty := .st tsBanks
abbrev Banks : Type := (List (List Int)) × (List Int) × Int
def Banks.mk (Rows : List (List Int)) (Par : List Int) (Lost : Int) : Banks := (Rows, Par, Lost)
def Banks.Rows (x : Banks) : List (List Int) := x.1
def Banks.Par (x : Banks) : List Int := x.2.1
def Banks.Lost (x : Banks) : Int := x.2.2
def Banks.setRows (x : Banks) (v : List (List Int)) : Banks := (v, x.2.1, x.2.2)
def Banks.setPar (x : Banks) (v : List Int) : Banks := (x.1, v, x.2.2)
def Banks.setLost (x : Banks) (v : Int) : Banks := (x.1, x.2.1, v)
@[simp] theorem Banks.Rows_mk (Rows : List (List Int)) (Par : List Int) (Lost : Int) : Banks.Rows (Banks.mk Rows Par Lost) = Rows := rfl
@[simp] theorem Banks.Par_mk (Rows : List (List Int)) (Par : List Int) (Lost : Int) : Banks.Par (Banks.mk Rows Par Lost) = Par := rfl
@[simp] theorem Banks.Lost_mk (Rows : List (List Int)) (Par : List Int) (Lost : Int) : Banks.Lost (Banks.mk Rows Par Lost) = Lost := rfl
@[simp] theorem Banks.setRows_eq (x : Banks) (v : List (List Int)) : Banks.setRows x v = Banks.mk v (Banks.Par x) (Banks.Lost x) := rfl
@[simp] theorem Banks.setPar_eq (x : Banks) (v : List Int) : Banks.setPar x v = Banks.mk (Banks.Rows x) v (Banks.Lost x) := rfl
@[simp] theorem Banks.setLost_eq (x : Banks) (v : Int) : Banks.setLost x v = Banks.mk (Banks.Rows x) (Banks.Par x) v := rfl
@[simp] theorem Banks.eta (x : Banks) : Banks.mk (Banks.Rows x) (Banks.Par x) (Banks.Lost x) = x := rfl

def tys : List Ty := [.no, .no, .int .i64, .int .i64, .bool, .int .u8, .int .u8, truntime_boundsError, truntime_boundsError, .str, .str, .str, .int .u64, truntime_errorAddressString, truntime_errorAddressString, .no, .no, .no, .no, .no, .no, .int .i32, .sl tEvent, tEvent, tEvent, .no, .arr 9 (.int .i64), .no, .no, .no, .no, .no, .no, .no, .no, .sl (.sl (.int .u32)), .sl (.int .u32), tBanks, tBanks, .int .u32, .no, .int .i64, .no, .no, .no, .no, .no, .no, .no, .no, .no, .no, .no, .no, .no, .no, .no, .no, .sl tl07_Put, tl07_Put, tl07_Put, .no, .no, .sl tDeed, .sl .bool, .no, .no, .no, .no, .no, .no, .no, .sl (.int .i64), .no, .no, .no, .no, .no, tDeed, tDeed, .no, .no, .sl tIns, .arr 8 (.int .u32), tCore, tCore, .no, tWant, tWant, .no, .no, .no, .no, .no, .no, .no, .no, .no, .no, .no, .no, .no, .no, .no, .no, .no, .no, .no, .no, .no, .no, .no, .no, .no, .no, .no, .no, .no, tIns, tIns, .no, .no, .no, .no, .int .u64, .no, .no, .no, .no, .no, .no, .sl (.sl tDeed), .no, .no, .no, .int .u64, .no, .no, .no, .no, .no, .no, .no, .no, .no, .no, .no, .no, .no, .no, .no, .no, .no, .no, .no, .no, .int .u8, .int .u8, .no, .no, .int .i32, .int .i32, .no, .no, .no]
noncomputable def cx : Cx := { P := Try.prog, ty := tys, own := [], inl := [36, 70, 78, 79, 84, 86, 94, 98], keepL := [], absL := [6, 36, 70, 73, 78], heads := [(3, [(10, 19777969592923586272774091319, ⟨11, 0, mkSlots 95 0 [(0, .d (.sl tEvent) (.v 0)), (1, .d (.int .i64) (.v 1)), (2, .d (.int .i64) (.v 2)), (4, .d (.int .i64) (.v 4)), (5, .d (.int .i64) (.v 5)), (9, .p tEvent tEvent 0 []), (12, .d .bool (.c (.bool false))), (13, .p (.arr 9 (.int .i64)) (.arr 9 (.int .i64)) 1 []), (14, .d (.int .i64) (.v 10))], [.box tEvent (.d tEvent (.v 3)), .box (.arr 9 (.int .i64)) (.d (.arr 9 (.int .i64)) (.v 9))]⟩),
    (12, 19777969592923586272774189623, ⟨14, 0, mkSlots 95 0 [(0, .d (.sl tEvent) (.v 0)), (1, .d (.int .i64) (.v 1)), (2, .d (.int .i64) (.v 2)), (4, .d (.int .i64) (.v 4)), (5, .d (.int .i64) (.v 5)), (9, .p tEvent tEvent 0 []), (12, .d .bool (.c (.bool false))), (13, .p (.arr 9 (.int .i64)) (.arr 9 (.int .i64)) 1 []), (14, .d (.int .i64) (.v 10)), (15, .d (.int .i64) (.v 12)), (16, .d (.int .i64) (.v 13))], [.box tEvent (.d tEvent (.v 3)), .box (.arr 9 (.int .i64)) (.d (.arr 9 (.int .i64)) (.v 9))]⟩)]),
  (17, [(5, 8455717317, ⟨6, 0, mkSlots 54 0 [(0, .d (.sl tEvent) (.v 0)), (2, .d (.int .i64) (.v 2)), (6, .d .bool (.c (.bool false))), (7, .d (.sl tEvent) (.v 4)), (8, .d (.int .i64) (.v 5))], []⟩),
    (7, 8455717829, ⟨8, 0, mkSlots 54 0 [(0, .d (.sl tEvent) (.v 0)), (2, .d (.int .i64) (.v 2)), (6, .d .bool (.c (.bool false))), (7, .d (.sl tEvent) (.v 4)), (8, .d (.int .i64) (.v 5)), (9, .d (.int .i64) (.v 7))], []⟩)]),
  (19, [(2, 267387001, ⟨4, 0, mkSlots 40 0 [(0, .d (.sl tEvent) (.v 0)), (3, .p tEvent tEvent 0 []), (4, .d (.int .i64) (.c (.int .i64 0))), (5, .d (.int .i64) (.v 2)), (6, .d (.int .i64) (.v 3))], [.box tEvent (.d tEvent (.v 1))]⟩),
    (6, 267387129, ⟨7, 0, mkSlots 40 0 [(0, .d (.sl tEvent) (.v 0)), (3, .p tEvent tEvent 0 []), (4, .d (.int .i64) (.c (.int .i64 0))), (5, .d (.int .i64) (.v 2)), (6, .d (.int .i64) (.v 3)), (7, .d (.int .i64) (.v 6))], [.box tEvent (.d tEvent (.v 1))]⟩)]),
  (24, [(4, 455, ⟨6, 0, mkSlots 64 0 [(0, .d (.int .i64) (.v 0)), (1, .d (.int .i64) (.v 1)), (2, .d (.int .i64) (.v 2)), (6, .d (.sl tEvent) (.c .nil)), (7, .h tEvent 0 none), (8, .d (.int .i64) (.v 4))], [.row tEvent (.v 5)]⟩),
    (7, 967, ⟨9, 0, mkSlots 64 0 [(0, .d (.int .i64) (.v 0)), (1, .d (.int .i64) (.v 1)), (2, .d (.int .i64) (.v 2)), (6, .d (.sl tEvent) (.c .nil)), (7, .h tEvent 0 none), (8, .d (.int .i64) (.v 4)), (9, .d (.int .i64) (.v 7))], [.row tEvent (.v 8)]⟩),
    (8, 1479, ⟨10, 0, mkSlots 64 0 [(0, .d (.int .i64) (.v 0)), (1, .d (.int .i64) (.v 1)), (2, .d (.int .i64) (.v 2)), (6, .d (.sl tEvent) (.c .nil)), (7, .h tEvent 0 none), (8, .d (.int .i64) (.v 4)), (10, .d (.int .i64) (.v 8))], [.row tEvent (.v 9)]⟩)])] }
theorem tyOk : TysOk cx := chkTys_ok (by kernel_rfl)
theorem mixed : Try.prog.follows .mixedOrders = true := by kernel_rfl
def noC : FuncId → List D → Option (List D) := fun _ _ => none
theorem noC_ok : CallsOk cx noC := fun _ _ _ _ _ _ _ h => by cases h
theorem call_now {f : FuncId} {ds rs : List D} (k d : Nat) (h : callF cx k 12 noC d f ds = some rs) : callL cx 12 noC f ds = some rs := (callL_some cx 12 noC).2 ⟨k, d, h⟩

/-! 15: backstay/fair.Counts -/
noncomputable def fair_Counts_L1 (x0 : List Event) (x1 : Int) (s : (Int × (List Int))) : Option ((Int × (List Int)) ⊕ (List Int)) :=
  if decide (s.1 < x1) then
    (getO x0 s.1).bind fun v5 =>
    (
      if (decide ((1 : Int) ≤ (Event.Kind v5))) && (decide ((Event.Kind v5) ≤ (9 : Int))) then
        let v8 : Int := w64 ((Event.Kind v5) - (1 : Int))
        (idxO (9 : Int) v8).bind fun v9 =>
        (getO s.2 v9).bind fun v10 =>
        (idxO (9 : Int) v8).bind fun v12 =>
        (setO s.2 v12 (w64 (v10 + (1 : Int)))).bind fun v13 =>
        some (v13)
      else
        some (s.2) : Option (List Int)).bind fun v7 =>
    some (Sum.inl (w64 (s.1 + (1 : Int)), v7))
  else
    some (Sum.inr (s.2))
noncomputable def fair_Counts (p0 : List Event) : Option (List Int) :=
  let v1 : Int := (List.length p0 : Int)
  (
    loopD (fair_Counts_L1 p0 v1) ((0 : Int), ([(0 : Int), (0 : Int), (0 : Int), (0 : Int), (0 : Int), (0 : Int), (0 : Int), (0 : Int), (0 : Int)] : List Int)) : Option (List Int)).bind fun v2 =>
  some (v2)
noncomputable def F_fair_Counts : FnT := ⟨[.sl tEvent], [.arr 9 (.int .i64)], fun x => fair_Counts x⟩
noncomputable def A_fair_Counts : TA :=
 .prim .len [.v 0] <|
 .sub0 [.arr 9 (.int .i64)] (
  .loop [.int .i64, .arr 9 (.int .i64)] [.c (.int .i64 0), .c (.agg [(.int .i64 0), (.int .i64 0), (.int .i64 0), (.int .i64 0), (.int .i64 0), (.int .i64 0), (.int .i64 0), (.int .i64 0), (.int .i64 0)])] (
   .prim (.bin .lss) [.v 2, .v 1] <|
   .ite (.v 4) (
    .prim .get [.v 0, .v 2] <|
    .subp [.bool] (
     .prim (.fld 0) [.v 5] <|
     .prim (.bin .geq) [.v 6, .c (.int .i64 1)] <|
     .ite (.v 7) (
      .prim (.fld 0) [.v 5] <|
      .prim (.bin .leq) [.v 8, .c (.int .i64 9)] <|
      .jmp 0 false [.v 9]) (
      .jmp 0 false [.c (.bool false)])) 1 <|
    .sub0 [.arr 9 (.int .i64)] (
     .ite (.v 6) (
      .prim (.fld 0) [.v 5] <|
      .prim (.bin .sub) [.v 7, .c (.int .i64 1)] <|
      .prim (.idxn 9) [.v 8] <|
      .prim .get [.v 3, .v 9] <|
      .prim (.bin .add) [.v 10, .c (.int .i64 1)] <|
      .prim (.idxn 9) [.v 8] <|
      .prim .set [.v 3, .v 12, .v 11] <|
      .jmp 0 false [.v 13]) (
      .jmp 0 false [.v 3])) 1 <|
    .prim (.bin .add) [.v 2, .c (.int .i64 1)] <|
    .jmp 0 true [.v 8, .v 7]) (
    .jmp 1 false [.v 3]))) 1 <|
 .jmp 0 false [.v 2]
theorem a_fair_Counts : treeOf cx 12 15 = some A_fair_Counts.erase := by kernel_rfl
theorem k_fair_Counts : FnOk cx 12 noC 15 F_fair_Counts := fn_ok (t := A_fair_Counts) a_fair_Counts (fun _ => rfl) (ok_of [] (by kernel_rfl) .nil) (fun x => by kernel_rfl)

/-! 22: backstay/backstayref23.Same -/
noncomputable def r23_Same_L1 (x0 : List Event) (x1 : List Event) (s : Int) : Option (Int ⊕ Unit ⊕ Bool) :=
  if decide (s < (List.length x0 : Int)) then
    (getO x0 s).bind fun v8 =>
    (getO x1 s).bind fun v9 =>
    if !(@decide (v8 = v9) (Ty.dec tEvent _ _)) then
      some (Sum.inr (Sum.inr (false)))
    else
      some (Sum.inl (w64 (s + (1 : Int))))
  else
    some (Sum.inr (Sum.inl ()))
noncomputable def r23_Same (p0 : List Event) (p1 : List Event) : Option Bool :=
  if !decide ((List.length p0 : Int) = (List.length p1 : Int)) then
    some (false)
  else
    orExit (
      loopD (r23_Same_L1 p0 p1) (0 : Int) : Option (Unit ⊕ Bool)) fun v5 =>
    some (true)
noncomputable def F_r23_Same : FnT := ⟨[.sl tEvent, .sl tEvent], [.bool], fun x => r23_Same x.1 x.2⟩
noncomputable def A_r23_Same : TA :=
 .prim .len [.v 0] <|
 .prim .len [.v 1] <|
 .prim (.bin .neq) [.v 2, .v 3] <|
 .ite (.v 4) (
  .jmp 0 false [.c (.bool false)]) (
  .sub1 [] (
   .loop [.int .i64] [.c (.int .i64 0)] (
    .prim .len [.v 0] <|
    .prim (.bin .lss) [.v 5, .v 6] <|
    .ite (.v 7) (
     .prim .get [.v 0, .v 5] <|
     .prim .get [.v 1, .v 5] <|
     .prim .eqv [.v 8, .v 9] <|
     .prim (.un .not) [.v 10] <|
     .ite (.v 11) (
      .jmp 2 false [.c (.bool false)]) (
      .prim (.bin .add) [.v 5, .c (.int .i64 1)] <|
      .jmp 0 true [.v 12])) (
     .jmp 1 false []))) 0 <|
  .jmp 0 false [.c (.bool true)])
theorem a_r23_Same : treeOf cx 12 22 = some A_r23_Same.erase := by kernel_rfl
theorem k_r23_Same : FnOk cx 12 noC 22 F_r23_Same := fn_ok (t := A_r23_Same) a_r23_Same (fun _ => rfl) (ok_of [] (by kernel_rfl) .nil) (fun x => by kernel_rfl)

/-! 24: backstay/backstayref23.Turns -/
noncomputable def r23_Turns_L1 (x2 : Int) (s : (Int × (List Event))) : Option ((Int × (List Event)) ⊕ (List Event)) :=
  if decide (s.1 < x2) then
    (appO 24 s.2 ([(Event.mk (2 : Int) (0 : Int) (0 : Int))] : List Event)).bind fun v11 =>
    some (Sum.inl (w64 (s.1 + (1 : Int)), v11))
  else
    some (Sum.inr (s.2))
noncomputable def r23_Turns_L2 (x0 : Int) (s : (Int × (List Event))) : Option ((Int × (List Event)) ⊕ (List Event)) :=
  if decide (s.1 < x0) then
    (appO 24 s.2 ([Event.mk (1 : Int) s.1 (0 : Int)] : List Event)).bind fun v12 =>
    some (Sum.inl (w64 (s.1 + (1 : Int)), v12))
  else
    some (Sum.inr (s.2))
noncomputable def r23_Turns_L3 (x0 : Int) (x1 : Int) (x2 : Int) (s : (Int × (List Event))) : Option ((Int × (List Event)) ⊕ (List Event)) :=
  if decide (s.1 < x1) then
    (
      loopD (r23_Turns_L2 x0) ((0 : Int), s.2) : Option (List Event)).bind fun v7 =>
    (
      loopD (r23_Turns_L1 x2) ((0 : Int), v7) : Option (List Event)).bind fun v8 =>
    (appO 24 v8 ([(Event.mk (5 : Int) (0 : Int) (0 : Int)), (Event.mk (4 : Int) (0 : Int) (0 : Int))] : List Event)).bind fun v9 =>
    some (Sum.inl (w64 (s.1 + (1 : Int)), v9))
  else
    some (Sum.inr (s.2))
noncomputable def r23_Turns (p0 : Int) (p1 : Int) (p2 : Int) : Option (List Event) :=
  if (decide (p0 < (1 : Int))) || ((decide ((4 : Int) < p0)) || ((decide (p1 < (0 : Int))) || ((decide ((1000 : Int) < p1)) || ((decide (p2 < (0 : Int))) || (decide ((100 : Int) < p2)))))) then
    some (([] : List Event))
  else
    (
      loopD (r23_Turns_L3 p0 p1 p2) ((0 : Int), ([] : List Event)) : Option (List Event)).bind fun v4 =>
    some (v4)
noncomputable def F_r23_Turns : FnT := ⟨[.int .i64, .int .i64, .int .i64], [.sl tEvent], fun x => r23_Turns x.1 x.2.1 x.2.2⟩
noncomputable def A_r23_Turns : TA :=
 .subp [.bool] (
  .prim (.bin .lss) [.v 0, .c (.int .i64 1)] <|
  .ite (.v 3) (
   .jmp 0 false [.c (.bool true)]) (
   .prim (.bin .gtr) [.v 0, .c (.int .i64 4)] <|
   .ite (.v 4) (
    .jmp 0 false [.c (.bool true)]) (
    .prim (.bin .lss) [.v 1, .c (.int .i64 0)] <|
    .ite (.v 5) (
     .jmp 0 false [.c (.bool true)]) (
     .prim (.bin .gtr) [.v 1, .c (.int .i64 1000)] <|
     .ite (.v 6) (
      .jmp 0 false [.c (.bool true)]) (
      .prim (.bin .lss) [.v 2, .c (.int .i64 0)] <|
      .ite (.v 7) (
       .jmp 0 false [.c (.bool true)]) (
       .prim (.bin .gtr) [.v 2, .c (.int .i64 100)] <|
       .jmp 0 false [.v 8])))))) 1 <|
 .ite (.v 3) (
  .jmp 0 false [.c .nil]) (
  .sub0 [.sl tEvent] (
   .loop [.int .i64, .sl tEvent] [.c (.int .i64 0), .c .nil] (
    .prim (.bin .lss) [.v 4, .v 1] <|
    .ite (.v 6) (
     .sub0 [.sl tEvent] (
      .loop [.int .i64, .sl tEvent] [.c (.int .i64 0), .v 5] (
       .prim (.bin .lss) [.v 7, .v 0] <|
       .ite (.v 9) (
        .mkS tsEvent [.c (.int .i64 1), .v 7, .c (.int .i64 0)] <|
        .mkL tEvent [.v 10] <|
        .prim (.app 24) [.v 8, .v 11] <|
        .prim (.bin .add) [.v 7, .c (.int .i64 1)] <|
        .jmp 0 true [.v 13, .v 12]) (
        .jmp 1 false [.v 8]))) 1 <|
     .sub0 [.sl tEvent] (
      .loop [.int .i64, .sl tEvent] [.c (.int .i64 0), .v 7] (
       .prim (.bin .lss) [.v 8, .v 2] <|
       .ite (.v 10) (
        .primH (.app 24) (.sl tEvent) [.v 9, .c (.sl [(.agg [(.int .i64 2), (.int .i64 0), (.int .i64 0)])])] <|
        .prim (.bin .add) [.v 8, .c (.int .i64 1)] <|
        .jmp 0 true [.v 12, .v 11]) (
        .jmp 1 false [.v 9]))) 1 <|
     .primH (.app 24) (.sl tEvent) [.v 8, .c (.sl [(.agg [(.int .i64 5), (.int .i64 0), (.int .i64 0)]), (.agg [(.int .i64 4), (.int .i64 0), (.int .i64 0)])])] <|
     .prim (.bin .add) [.v 4, .c (.int .i64 1)] <|
     .jmp 0 true [.v 10, .v 9]) (
     .jmp 1 false [.v 5]))) 1 <|
  .jmp 0 false [.v 4])
theorem a_r23_Turns : treeOf cx 12 24 = some A_r23_Turns.erase := by kernel_rfl
theorem k_r23_Turns : FnOk cx 12 noC 24 F_r23_Turns := fn_ok (t := A_r23_Turns) a_r23_Turns (fun _ => rfl) (ok_of [] (by kernel_rfl) .nil) (fun x => by kernel_rfl)

/-! 61: backstay/fair.may -/
def fair_may (p0 : Int) : Bool :=
  (decide ((1 : Int) ≤ p0)) && (decide (p0 ≤ (4 : Int)))
def F_fair_may : PnT := ⟨[.int .i64], [.bool], fun x => fair_may x⟩
def A_fair_may : TA :=
 .subp [.bool] (
  .prim (.bin .geq) [.v 0, .c (.int .i64 1)] <|
  .ite (.v 1) (
   .prim (.bin .leq) [.v 0, .c (.int .i64 4)] <|
   .jmp 0 false [.v 2]) (
   .jmp 0 false [.c (.bool false)])) 1 <|
 .jmp 0 false [.v 1]
theorem a_fair_may : treeOf cx 12 61 = some A_fair_may.erase := by kernel_rfl
theorem k_fair_may : FnOk cx 12 noC 61 F_fair_may.fn := pn_ok (t := A_fair_may) a_fair_may (fun _ => rfl) (ok_of [] (by kernel_rfl) .nil) (fun x => by kernel_rfl)

/-! 62: backstay/backstayref23.must -/
noncomputable def r23_must_L1 (x0 : Int) (s : (Int × (List Event))) : Option ((Int × (List Event)) ⊕ (List Event)) :=
  if decide (s.1 < x0) then
    (appO 24 s.2 ([Event.mk (1 : Int) s.1 (0 : Int)] : List Event)).bind fun v6 =>
    some (Sum.inl (w64 (s.1 + (1 : Int)), v6))
  else
    some (Sum.inr (s.2))
noncomputable def r23_must (p0 : Int) : Option (List Event) :=
  (
    loopD (r23_must_L1 p0) ((0 : Int), ([(Event.mk (2 : Int) (0 : Int) (0 : Int)), (Event.mk (4 : Int) (0 : Int) (0 : Int)), (Event.mk (5 : Int) (0 : Int) (0 : Int))] : List Event)) : Option (List Event)).bind fun v1 =>
  some (v1)
noncomputable def F_r23_must : FnT := ⟨[.int .i64], [.sl tEvent], fun x => r23_must x⟩
noncomputable def A_r23_must : TA :=
 .sub0 [.sl tEvent] (
  .loop [.int .i64, .sl tEvent] [.c (.int .i64 0), .c (.sl [(.agg [(.int .i64 2), (.int .i64 0), (.int .i64 0)]), (.agg [(.int .i64 4), (.int .i64 0), (.int .i64 0)]), (.agg [(.int .i64 5), (.int .i64 0), (.int .i64 0)])])] (
   .prim (.bin .lss) [.v 1, .v 0] <|
   .ite (.v 3) (
    .mkS tsEvent [.c (.int .i64 1), .v 1, .c (.int .i64 0)] <|
    .mkL tEvent [.v 4] <|
    .prim (.app 24) [.v 2, .v 5] <|
    .prim (.bin .add) [.v 1, .c (.int .i64 1)] <|
    .jmp 0 true [.v 7, .v 6]) (
    .jmp 1 false [.v 2]))) 1 <|
 .jmp 0 false [.v 1]
theorem a_r23_must : treeOf cx 12 62 = some A_r23_must.erase := by kernel_rfl
theorem k_r23_must : FnOk cx 12 noC 62 F_r23_must := fn_ok (t := A_r23_must) a_r23_must (fun _ => rfl) (ok_of [] (by kernel_rfl) .nil) (fun x => by kernel_rfl)

/-! 63: backstay/backstayref23.Among -/
noncomputable def r23_Among_L1 (x0 : List Event) (x1 : Event) (s : Int) : Option (Int ⊕ Unit ⊕ Bool) :=
  if decide (s < (List.length x0 : Int)) then
    (
      (getO x0 s).bind fun v5 =>
      if decide ((Event.Kind v5) = (Event.Kind x1)) then
        if !decide ((Event.Kind x1) = (1 : Int)) then
          some (true)
        else
          (getO x0 s).bind fun v11 =>
          some ((decide ((Event.N v11) = (Event.N x1))))
      else
        some (false) : Option Bool).bind fun v5 =>
    if v5 then
      some (Sum.inr (Sum.inr (true)))
    else
      some (Sum.inl (w64 (s + (1 : Int))))
  else
    some (Sum.inr (Sum.inl ()))
noncomputable def r23_Among (p0 : List Event) (p1 : Event) : Option Bool :=
  orExit (
    loopD (r23_Among_L1 p0 p1) (0 : Int) : Option (Unit ⊕ Bool)) fun v2 =>
  some (false)
noncomputable def F_r23_Among : FnT := ⟨[.sl tEvent, tEvent], [.bool], fun x => r23_Among x.1 x.2⟩
noncomputable def A_r23_Among : TA :=
 .sub1 [] (
  .loop [.int .i64] [.c (.int .i64 0)] (
   .prim .len [.v 0] <|
   .prim (.bin .lss) [.v 2, .v 3] <|
   .ite (.v 4) (
    .sub0 [.bool] (
     .prim .get [.v 0, .v 2] <|
     .prim (.fld 0) [.v 5] <|
     .prim (.fld 0) [.v 1] <|
     .prim (.bin .eql) [.v 6, .v 7] <|
     .ite (.v 8) (
      .prim (.fld 0) [.v 1] <|
      .prim (.bin .neq) [.v 9, .c (.int .i64 1)] <|
      .ite (.v 10) (
       .jmp 0 false [.c (.bool true)]) (
       .prim .get [.v 0, .v 2] <|
       .prim (.fld 1) [.v 11] <|
       .prim (.fld 1) [.v 1] <|
       .prim (.bin .eql) [.v 12, .v 13] <|
       .jmp 0 false [.v 14])) (
      .jmp 0 false [.c (.bool false)])) 1 <|
    .ite (.v 5) (
     .jmp 2 false [.c (.bool true)]) (
     .prim (.bin .add) [.v 2, .c (.int .i64 1)] <|
     .jmp 0 true [.v 6])) (
    .jmp 1 false []))) 0 <|
 .jmp 0 false [.c (.bool false)]
theorem a_r23_Among : treeOf cx 12 63 = some A_r23_Among.erase := by kernel_rfl
theorem k_r23_Among : FnOk cx 12 noC 63 F_r23_Among := fn_ok (t := A_r23_Among) a_r23_Among (fun _ => rfl) (ok_of [] (by kernel_rfl) .nil) (fun x => by kernel_rfl)

/-! 64: backstay/fair.same -/
def fair_same (p0 : Event) (p1 : Event) : Bool :=
  (decide ((Event.Kind p0) = (Event.Kind p1))) && ((!decide ((Event.Kind p0) = (1 : Int))) || (decide ((Event.N p0) = (Event.N p1))))
def F_fair_same : PnT := ⟨[tEvent, tEvent], [.bool], fun x => fair_same x.1 x.2⟩
def A_fair_same : TA :=
 .subp [.bool] (
  .prim (.fld 0) [.v 0] <|
  .prim (.fld 0) [.v 1] <|
  .prim (.bin .eql) [.v 2, .v 3] <|
  .ite (.v 4) (
   .prim (.fld 0) [.v 0] <|
   .prim (.bin .neq) [.v 5, .c (.int .i64 1)] <|
   .ite (.v 6) (
    .jmp 0 false [.c (.bool true)]) (
    .prim (.fld 1) [.v 0] <|
    .prim (.fld 1) [.v 1] <|
    .prim (.bin .eql) [.v 7, .v 8] <|
    .jmp 0 false [.v 9])) (
   .jmp 0 false [.c (.bool false)])) 1 <|
 .jmp 0 false [.v 2]
theorem a_fair_same : treeOf cx 12 64 = some A_fair_same.erase := by kernel_rfl
theorem k_fair_same : FnOk cx 12 noC 64 F_fair_same.fn := pn_ok (t := A_fair_same) a_fair_same (fun _ => rfl) (ok_of [] (by kernel_rfl) .nil) (fun x => by kernel_rfl)

/-! 65: backstay/fair.must -/
noncomputable def fair_must (p0 : Int) : Option (List Event) :=
  (
    loopD (r23_must_L1 p0) ((0 : Int), ([(Event.mk (2 : Int) (0 : Int) (0 : Int)), (Event.mk (4 : Int) (0 : Int) (0 : Int)), (Event.mk (5 : Int) (0 : Int) (0 : Int))] : List Event)) : Option (List Event)).bind fun v1 =>
  some (v1)
noncomputable def F_fair_must : FnT := ⟨[.int .i64], [.sl tEvent], fun x => fair_must x⟩
noncomputable def A_fair_must : TA :=
 .sub0 [.sl tEvent] (
  .loop [.int .i64, .sl tEvent] [.c (.int .i64 0), .c (.sl [(.agg [(.int .i64 2), (.int .i64 0), (.int .i64 0)]), (.agg [(.int .i64 4), (.int .i64 0), (.int .i64 0)]), (.agg [(.int .i64 5), (.int .i64 0), (.int .i64 0)])])] (
   .prim (.bin .lss) [.v 1, .v 0] <|
   .ite (.v 3) (
    .mkS tsEvent [.c (.int .i64 1), .v 1, .c (.int .i64 0)] <|
    .mkL tEvent [.v 4] <|
    .prim (.app 24) [.v 2, .v 5] <|
    .prim (.bin .add) [.v 1, .c (.int .i64 1)] <|
    .jmp 0 true [.v 7, .v 6]) (
    .jmp 1 false [.v 2]))) 1 <|
 .jmp 0 false [.v 1]
theorem a_fair_must : treeOf cx 12 65 = some A_fair_must.erase := by kernel_rfl
theorem k_fair_must : FnOk cx 12 noC 65 F_fair_must := fn_ok (t := A_fair_must) a_fair_must (fun _ => rfl) (ok_of [] (by kernel_rfl) .nil) (fun x => by kernel_rfl)

/-! 66: slices.Max[[]int,int] -/
noncomputable def slices_Max_int_int_L1 (x0 : List Int) (s : (Int × Int)) : Option ((Int × Int) ⊕ Int) :=
  if decide (s.2 < (List.length x0 : Int)) then
    (getO x0 s.2).bind fun v8 =>
    some (Sum.inl (maxT s.1 v8, w64 (s.2 + (1 : Int))))
  else
    some (Sum.inr (s.1))
noncomputable def slices_Max_int_int (p0 : List Int) : Option Int :=
  if decide ((List.length p0 : Int) < (1 : Int)) then
    none
  else
    (getO p0 (0 : Int)).bind fun v3 =>
    (
      loopD (slices_Max_int_int_L1 p0) (v3, (1 : Int)) : Option Int).bind fun v4 =>
    some (v4)
noncomputable def F_slices_Max_int_int : FnT := ⟨[.sl (.int .i64)], [.int .i64], fun x => slices_Max_int_int x⟩
noncomputable def A_slices_Max_int_int : TA :=
 .prim .len [.v 0] <|
 .prim (.bin .lss) [.v 1, .c (.int .i64 1)] <|
 .ite (.v 2) (
  .fail 153) (
  .prim .get [.v 0, .c (.int .i64 0)] <|
  .sub0 [.int .i64] (
   .loop [.int .i64, .int .i64] [.v 3, .c (.int .i64 1)] (
    .prim .len [.v 0] <|
    .prim (.bin .lss) [.v 5, .v 6] <|
    .ite (.v 7) (
     .prim .get [.v 0, .v 5] <|
     .prim .max2 [.v 4, .v 8] <|
     .prim (.bin .add) [.v 5, .c (.int .i64 1)] <|
     .jmp 0 true [.v 9, .v 10]) (
     .jmp 1 false [.v 4]))) 1 <|
  .jmp 0 false [.v 4])
theorem a_slices_Max_int_int : treeOf cx 12 66 = some A_slices_Max_int_int.erase := by kernel_rfl
theorem k_slices_Max_int_int : FnOk cx 12 noC 66 F_slices_Max_int_int := fn_ok (t := A_slices_Max_int_int) a_slices_Max_int_int (fun _ => rfl) (ok_of [] (by kernel_rfl) .nil) (fun x => by kernel_rfl)

/-! 106: math/bits.Mul64 -/
noncomputable def math_bits_Mul64 (p0 : Int) (p1 : Int) : Option (Int × Int) :=
  let v2 : Int := bAnd .u64 p0 (4294967295 : Int)
  (shrO .u64 p0 (32 : Int)).bind fun v3 =>
  let v4 : Int := bAnd .u64 p1 (4294967295 : Int)
  (shrO .u64 p1 (32 : Int)).bind fun v5 =>
  (shrO .u64 (wu64 (v2 * v4)) (32 : Int)).bind fun v8 =>
  let v9 : Int := wu64 ((wu64 (v3 * v4)) + v8)
  (shrO .u64 v9 (32 : Int)).bind fun v11 =>
  (shrO .u64 (wu64 ((bAnd .u64 v9 (4294967295 : Int)) + (wu64 (v2 * v5)))) (32 : Int)).bind fun v16 =>
  some ((wu64 ((wu64 ((wu64 (v3 * v5)) + v11)) + v16), wu64 (p0 * p1)))
noncomputable def F_math_bits_Mul64 : FnT := ⟨[.int .u64, .int .u64], [.int .u64, .int .u64], fun x => math_bits_Mul64 x.1 x.2⟩
noncomputable def A_math_bits_Mul64 : TA :=
 .prim (.bin .and) [.v 0, .c (.int .u64 4294967295)] <|
 .prim (.bin .shr) [.v 0, .c (.int .u64 32)] <|
 .prim (.bin .and) [.v 1, .c (.int .u64 4294967295)] <|
 .prim (.bin .shr) [.v 1, .c (.int .u64 32)] <|
 .prim (.bin .mul) [.v 2, .v 4] <|
 .prim (.bin .mul) [.v 3, .v 4] <|
 .prim (.bin .shr) [.v 6, .c (.int .u64 32)] <|
 .prim (.bin .add) [.v 7, .v 8] <|
 .prim (.bin .and) [.v 9, .c (.int .u64 4294967295)] <|
 .prim (.bin .shr) [.v 9, .c (.int .u64 32)] <|
 .prim (.bin .mul) [.v 2, .v 5] <|
 .prim (.bin .add) [.v 10, .v 12] <|
 .prim (.bin .mul) [.v 3, .v 5] <|
 .prim (.bin .add) [.v 14, .v 11] <|
 .prim (.bin .shr) [.v 13, .c (.int .u64 32)] <|
 .prim (.bin .add) [.v 15, .v 16] <|
 .prim (.bin .mul) [.v 0, .v 1] <|
 .jmp 0 false [.v 17, .v 18]
theorem a_math_bits_Mul64 : treeOf cx 12 106 = some A_math_bits_Mul64.erase := by kernel_rfl
theorem k_math_bits_Mul64 : FnOk cx 12 noC 106 F_math_bits_Mul64 := fn_ok (t := A_math_bits_Mul64) a_math_bits_Mul64 (fun _ => rfl) (ok_of [] (by kernel_rfl) .nil) (fun x => by kernel_rfl)

/-! 17: backstay/backstayref23.Is -/
noncomputable def r23_Is_L1 (x0 : List Event) (x2 : Int) (x4 : List Event) (x5 : Int) (s : Int) : Option (Int ⊕ Unit ⊕ Int ⊕ Unit ⊕ Bool) :=
  if decide (s < (List.length x4 : Int)) then
    (subO x0 x5 (w64 (x5 + x2))).bind fun v12 =>
    (getO x4 s).bind fun v13 =>
    (r23_Among v12 v13).bind fun v14 =>
    if !v14 then
      some (Sum.inr (Sum.inr (Sum.inr (Sum.inr (false)))))
    else
      some (Sum.inl (w64 (s + (1 : Int))))
  else
    some (Sum.inr (Sum.inl ()))
noncomputable def r23_Is_L2 (x0 : List Event) (x2 : Int) (x4 : List Event) (s : Int) : Option (Int ⊕ Unit ⊕ Bool) :=
  if (decide (x2 ≤ (List.length x0 : Int))) && (decide (s ≤ (w64 ((List.length x0 : Int) - x2)))) then
    orExit (
      loopD (r23_Is_L1 x0 x2 x4 s) (0 : Int) : Option (Unit ⊕ Int ⊕ Unit ⊕ Bool)) fun v7 =>
    some (Sum.inl (w64 (s + (1 : Int))))
  else
    some (Sum.inr (Sum.inl ()))
noncomputable def r23_Is (p0 : List Event) (p1 : Int) (p2 : Int) : Option Bool :=
  if (decide (p1 < (1 : Int))) || ((decide ((4 : Int) < p1)) || (decide (p2 < (1 : Int)))) then
    some (false)
  else
    (r23_must p1).bind fun v4 =>
    orExit (
      loopD (r23_Is_L2 p0 p2 v4) (0 : Int) : Option (Unit ⊕ Bool)) fun v5 =>
    some (true)
noncomputable def F_r23_Is : FnT := ⟨[.sl tEvent, .int .i64, .int .i64], [.bool], fun x => r23_Is x.1 x.2.1 x.2.2⟩
noncomputable def A_r23_Is : TA :=
 .subp [.bool] (
  .prim (.bin .lss) [.v 1, .c (.int .i64 1)] <|
  .ite (.v 3) (
   .jmp 0 false [.c (.bool true)]) (
   .prim (.bin .gtr) [.v 1, .c (.int .i64 4)] <|
   .ite (.v 4) (
    .jmp 0 false [.c (.bool true)]) (
    .prim (.bin .lss) [.v 2, .c (.int .i64 1)] <|
    .jmp 0 false [.v 5]))) 1 <|
 .ite (.v 3) (
  .jmp 0 false [.c (.bool false)]) (
  .call 62 F_r23_must [.v 1] 1 <|
  .sub1 [] (
   .loop [.int .i64] [.c (.int .i64 0)] (
    .subp [.bool] (
     .prim .len [.v 0] <|
     .prim (.bin .leq) [.v 2, .v 6] <|
     .ite (.v 7) (
      .prim .len [.v 0] <|
      .prim (.bin .sub) [.v 8, .v 2] <|
      .prim (.bin .leq) [.v 5, .v 9] <|
      .jmp 0 false [.v 10]) (
      .jmp 0 false [.c (.bool false)])) 1 <|
    .ite (.v 6) (
     .sub1 [] (
      .loop [.int .i64] [.c (.int .i64 0)] (
       .prim .len [.v 4] <|
       .prim (.bin .lss) [.v 7, .v 8] <|
       .ite (.v 9) (
        .prim (.bin .add) [.v 5, .v 2] <|
        .prim .len [.v 0] <|
        .prim .sub [.v 0, .v 5, .v 10] <|
        .prim .get [.v 4, .v 7] <|
        .call 63 F_r23_Among [.v 12, .v 13] 1 <|
        .prim (.un .not) [.v 14] <|
        .ite (.v 15) (
         .jmp 4 false [.c (.bool false)]) (
         .prim (.bin .add) [.v 7, .c (.int .i64 1)] <|
         .jmp 0 true [.v 16])) (
        .jmp 1 false []))) 0 <|
     .prim (.bin .add) [.v 5, .c (.int .i64 1)] <|
     .jmp 0 true [.v 7]) (
     .jmp 1 false []))) 0 <|
  .jmp 0 false [.c (.bool true)])
theorem a_r23_Is : treeOf cx 12 17 = some A_r23_Is.erase := by kernel_rfl
theorem k_r23_Is : FnOk cx 12 noC 17 F_r23_Is := fn_ok (t := A_r23_Is) a_r23_Is (fun _ => rfl) (ok_of [(62, F_r23_must), (63, F_r23_Among)] (by kernel_rfl) (.cons k_r23_must (.cons k_r23_Among .nil))) (fun x => by kernel_rfl)

/-! 18: backstay/fair.Gap -/
noncomputable def fair_Gap_L1 (x0 : List Event) (x1 : Event) (x2 : Int) (s : (Int × Int × Int)) : Option ((Int × Int × Int) ⊕ Int) :=
  if decide (s.2.2 < x2) then
    (getO x0 s.2.2).bind fun v7 =>
    let v10 : Int := bif fair_same x1 v7 then (0 : Int) else w64 (s.2.1 + (1 : Int))
    some (Sum.inl (maxT s.1 v10, v10, w64 (s.2.2 + (1 : Int))))
  else
    some (Sum.inr (s.1))
noncomputable def fair_Gap (p0 : List Event) (p1 : Event) : Option Int :=
  let v2 : Int := (List.length p0 : Int)
  (
    loopD (fair_Gap_L1 p0 p1 v2) ((0 : Int), (0 : Int), (0 : Int)) : Option Int).bind fun v3 =>
  some (v3)
noncomputable def F_fair_Gap : FnT := ⟨[.sl tEvent, tEvent], [.int .i64], fun x => fair_Gap x.1 x.2⟩
noncomputable def A_fair_Gap : TA :=
 .prim .len [.v 0] <|
 .sub0 [.int .i64] (
  .loop [.int .i64, .int .i64, .int .i64] [.c (.int .i64 0), .c (.int .i64 0), .c (.int .i64 0)] (
   .prim (.bin .lss) [.v 5, .v 2] <|
   .ite (.v 6) (
    .prim .get [.v 0, .v 5] <|
    .prim (.bin .add) [.v 4, .c (.int .i64 1)] <|
    .callp 64 F_fair_same [.v 1, .v 7] 1 <|
    .subp [.int .i64] (
     .ite (.v 9) (
      .jmp 0 false [.c (.int .i64 0)]) (
      .jmp 0 false [.v 8])) 1 <|
    .prim .max2 [.v 3, .v 10] <|
    .prim (.bin .add) [.v 5, .c (.int .i64 1)] <|
    .jmp 0 true [.v 11, .v 10, .v 12]) (
    .jmp 1 false [.v 3]))) 1 <|
 .jmp 0 false [.v 3]
theorem a_fair_Gap : treeOf cx 12 18 = some A_fair_Gap.erase := by kernel_rfl
theorem k_fair_Gap : FnOk cx 12 noC 18 F_fair_Gap := fn_ok (t := A_fair_Gap) a_fair_Gap (fun _ => rfl) (ok_of [(64, F_fair_same.fn)] (by kernel_rfl) (.cons k_fair_same .nil)) (fun x => by kernel_rfl)

/-! 19: backstay/backstayref23.Gap -/
noncomputable def r23_Gap_L1 (x0 : List Event) (x1 : Event) (s : Int) : Option (Int ⊕ Int) :=
  (
    if decide (s < (List.length x0 : Int)) then
      (subO x0 s (w64 (s + (1 : Int)))).bind fun v11 =>
      (r23_Among v11 x1).bind fun v12 =>
      some ((!v12))
    else
      some (false) : Option Bool).bind fun v7 =>
  if v7 then
    some (Sum.inl (w64 (s + (1 : Int))))
  else
    some (Sum.inr (s))
noncomputable def r23_Gap_L2 (x0 : List Event) (x1 : Event) (s : (Int × Int)) : Option ((Int × Int) ⊕ Int) :=
  if decide (s.2 < (List.length x0 : Int)) then
    (
      loopD (r23_Gap_L1 x0 x1) s.2 : Option Int).bind fun v6 =>
    some (Sum.inl (bif decide (s.1 < (w64 (v6 - s.2))) then w64 (v6 - s.2) else s.1, w64 (s.2 + (1 : Int))))
  else
    some (Sum.inr (s.1))
noncomputable def r23_Gap (p0 : List Event) (p1 : Event) : Option Int :=
  (
    loopD (r23_Gap_L2 p0 p1) ((0 : Int), (0 : Int)) : Option Int).bind fun v2 =>
  some (v2)
noncomputable def F_r23_Gap : FnT := ⟨[.sl tEvent, tEvent], [.int .i64], fun x => r23_Gap x.1 x.2⟩
noncomputable def A_r23_Gap : TA :=
 .sub0 [.int .i64] (
  .loop [.int .i64, .int .i64] [.c (.int .i64 0), .c (.int .i64 0)] (
   .prim .len [.v 0] <|
   .prim (.bin .lss) [.v 3, .v 4] <|
   .ite (.v 5) (
    .sub0 [.int .i64] (
     .loop [.int .i64] [.v 3] (
      .sub0 [.bool] (
       .prim .len [.v 0] <|
       .prim (.bin .lss) [.v 6, .v 7] <|
       .ite (.v 8) (
        .prim (.bin .add) [.v 6, .c (.int .i64 1)] <|
        .prim .len [.v 0] <|
        .prim .sub [.v 0, .v 6, .v 9] <|
        .call 63 F_r23_Among [.v 11, .v 1] 1 <|
        .prim (.un .not) [.v 12] <|
        .jmp 0 false [.v 13]) (
        .jmp 0 false [.c (.bool false)])) 1 <|
      .ite (.v 7) (
       .prim (.bin .add) [.v 6, .c (.int .i64 1)] <|
       .jmp 0 true [.v 8]) (
       .jmp 1 false [.v 6]))) 1 <|
    .prim (.bin .sub) [.v 6, .v 3] <|
    .prim (.bin .gtr) [.v 7, .v 2] <|
    .subp [.int .i64] (
     .ite (.v 8) (
      .prim (.bin .sub) [.v 6, .v 3] <|
      .jmp 0 false [.v 9]) (
      .jmp 0 false [.v 2])) 1 <|
    .prim (.bin .add) [.v 3, .c (.int .i64 1)] <|
    .jmp 0 true [.v 9, .v 10]) (
    .jmp 1 false [.v 2]))) 1 <|
 .jmp 0 false [.v 2]
theorem a_r23_Gap : treeOf cx 12 19 = some A_r23_Gap.erase := by kernel_rfl
theorem k_r23_Gap : FnOk cx 12 noC 19 F_r23_Gap := fn_ok (t := A_r23_Gap) a_r23_Gap (fun _ => rfl) (ok_of [(63, F_r23_Among)] (by kernel_rfl) (.cons k_r23_Among .nil)) (fun x => by kernel_rfl)

/-! 93: math/bits.Mul -/
noncomputable def math_bits_Mul (p0 : Int) (p1 : Int) : Option (Int × Int) :=
  (math_bits_Mul64 p0 p1).bind fun v2 =>
  some ((v2.1, v2.2))
noncomputable def F_math_bits_Mul : FnT := ⟨[.int .u64, .int .u64], [.int .u64, .int .u64], fun x => math_bits_Mul x.1 x.2⟩
noncomputable def A_math_bits_Mul : TA :=
 .call 106 F_math_bits_Mul64 [.v 0, .v 1] 2 <|
 .jmp 0 false [.v 2, .v 3]
theorem a_math_bits_Mul : treeOf cx 12 93 = some A_math_bits_Mul.erase := by kernel_rfl
theorem k_math_bits_Mul : FnOk cx 12 noC 93 F_math_bits_Mul := fn_ok (t := A_math_bits_Mul) a_math_bits_Mul (fun _ => rfl) (ok_of [(106, F_math_bits_Mul64)] (by kernel_rfl) (.cons k_math_bits_Mul64 .nil)) (fun x => by kernel_rfl)

/-! 20: backstay/fair.Least -/
noncomputable def fair_Least_L1 (x0 : List Event) (x4 : List Event) (x5 : Int) (s : (Int × (List Int))) : Option ((Int × (List Int)) ⊕ (List Int)) :=
  if decide (s.1 < x5) then
    (getO x4 s.1).bind fun v9 =>
    (fair_Gap x0 v9).bind fun v10 =>
    (appO 8 s.2 ([v10] : List Int)).bind fun v12 =>
    some (Sum.inl (w64 (s.1 + (1 : Int)), v12))
  else
    some (Sum.inr (s.2))
noncomputable def fair_Least (p0 : List Event) (p1 : Int) : Option Int :=
  if !(fair_may p1) then
    some ((0 : Int))
  else
    (fair_must p1).bind fun v4 =>
    let v5 : Int := (List.length v4 : Int)
    (
      loopD (fair_Least_L1 p0 v4 v5) ((0 : Int), ([(0 : Int)] : List Int)) : Option (List Int)).bind fun v6 =>
    (slices_Max_int_int v6).bind fun v7 =>
    some ((w64 (v7 + (1 : Int))))
noncomputable def F_fair_Least : FnT := ⟨[.sl tEvent, .int .i64], [.int .i64], fun x => fair_Least x.1 x.2⟩
noncomputable def A_fair_Least : TA :=
 .callp 61 F_fair_may [.v 1] 1 <|
 .prim (.un .not) [.v 2] <|
 .ite (.v 3) (
  .jmp 0 false [.c (.int .i64 0)]) (
  .call 65 F_fair_must [.v 1] 1 <|
  .prim .len [.v 4] <|
  .sub0 [.sl (.int .i64)] (
   .loop [.int .i64, .sl (.int .i64)] [.c (.int .i64 0), .c (.sl [(.int .i64 0)])] (
    .prim (.bin .lss) [.v 6, .v 5] <|
    .ite (.v 8) (
     .prim .get [.v 4, .v 6] <|
     .call 18 F_fair_Gap [.v 0, .v 9] 1 <|
     .mkL (.int .i64) [.v 10] <|
     .prim (.app 8) [.v 7, .v 11] <|
     .prim (.bin .add) [.v 6, .c (.int .i64 1)] <|
     .jmp 0 true [.v 13, .v 12]) (
     .jmp 1 false [.v 7]))) 1 <|
  .call 66 F_slices_Max_int_int [.v 6] 1 <|
  .prim (.bin .add) [.v 7, .c (.int .i64 1)] <|
  .jmp 0 false [.v 8])
theorem a_fair_Least : treeOf cx 12 20 = some A_fair_Least.erase := by kernel_rfl
theorem k_fair_Least : FnOk cx 12 noC 20 F_fair_Least := fn_ok (t := A_fair_Least) a_fair_Least (fun _ => rfl) (ok_of [(61, F_fair_may.fn), (65, F_fair_must), (18, F_fair_Gap), (66, F_slices_Max_int_int)] (by kernel_rfl) (.cons k_fair_may (.cons k_fair_must (.cons k_fair_Gap (.cons k_slices_Max_int_int .nil))))) (fun x => by kernel_rfl)

/-! 21: backstay/backstayref23.Least -/
noncomputable def r23_Least_L1 (x0 : List Event) (x1 : Int) (s : Int) : Option (Int ⊕ Int) :=
  (r23_Is x0 x1 s).bind fun v4 =>
  if !v4 then
    some (Sum.inl (w64 (s + (1 : Int))))
  else
    some (Sum.inr (s))
noncomputable def r23_Least (p0 : List Event) (p1 : Int) : Option Int :=
  if (decide (p1 < (1 : Int))) || (decide ((4 : Int) < p1)) then
    some ((0 : Int))
  else
    (
      loopD (r23_Least_L1 p0 p1) (1 : Int) : Option Int).bind fun v3 =>
    some (v3)
noncomputable def F_r23_Least : FnT := ⟨[.sl tEvent, .int .i64], [.int .i64], fun x => r23_Least x.1 x.2⟩
noncomputable def A_r23_Least : TA :=
 .subp [.bool] (
  .prim (.bin .lss) [.v 1, .c (.int .i64 1)] <|
  .ite (.v 2) (
   .jmp 0 false [.c (.bool true)]) (
   .prim (.bin .gtr) [.v 1, .c (.int .i64 4)] <|
   .jmp 0 false [.v 3])) 1 <|
 .ite (.v 2) (
  .jmp 0 false [.c (.int .i64 0)]) (
  .sub0 [.int .i64] (
   .loop [.int .i64] [.c (.int .i64 1)] (
    .call 17 F_r23_Is [.v 0, .v 1, .v 3] 1 <|
    .prim (.un .not) [.v 4] <|
    .ite (.v 5) (
     .prim (.bin .add) [.v 3, .c (.int .i64 1)] <|
     .jmp 0 true [.v 6]) (
     .jmp 1 false [.v 3]))) 1 <|
  .jmp 0 false [.v 3])
theorem a_r23_Least : treeOf cx 12 21 = some A_r23_Least.erase := by kernel_rfl
theorem k_r23_Least : FnOk cx 12 noC 21 F_r23_Least := fn_ok (t := A_r23_Least) a_r23_Least (fun _ => rfl) (ok_of [(17, F_r23_Is)] (by kernel_rfl) (.cons k_r23_Is .nil)) (fun x => by kernel_rfl)

/-! 67: slices.Repeat[[]backstay/api.Event,backstay/api.Event] -/
noncomputable def slices_Repeat_api_Event_api_Event_L1 (s : (Int × (List Event))) : Option ((Int × (List Event)) ⊕ (List Event)) :=
  if decide (s.1 < (List.length s.2 : Int)) then
    (rngO (List.length s.2 : Int) s.1 (List.length s.2 : Int)).bind fun v21 =>
    (rngO (List.length s.2 : Int) (0 : Int) s.1).bind fun v23 =>
    (subO s.2 (0 : Int) v23).bind fun v24 =>
    (cpyvO s.2 s.1 v21 v24).bind fun v25 =>
    some (Sum.inl (w64 (s.1 + (minT (List.length v24 : Int) (v21 - s.1))), v25))
  else
    some (Sum.inr (s.2))
noncomputable def slices_Repeat_api_Event_api_Event (p0 : List Event) (p1 : Int) : Option (List Event) :=
  if decide (p1 < (0 : Int)) then
    none
  else
    (math_bits_Mul (wu64 (List.length p0 : Int)) (wu64 p1)).bind fun v6 =>
    if (decide ((0 : Int) < v6.1)) || (decide ((9223372036854775807 : Int) < v6.2)) then
      none
    else
      let v9 : Int := w64 v6.2
      (repO (Event.mk (0 : Int) (0 : Int) (0 : Int)) 24 v9 v9).bind fun v10 =>
      let v11 : Int := (List.length v10 : Int)
      (cpyvO v10 (0 : Int) v11 p0).bind fun v12 =>
      (
        loopD slices_Repeat_api_Event_api_Event_L1 (minT (List.length p0 : Int) (v11 - (0 : Int)), v12) : Option (List Event)).bind fun v16 =>
      some (v16)
noncomputable def F_slices_Repeat_api_Event_api_Event : FnT := ⟨[.sl tEvent, .int .i64], [.sl tEvent], fun x => slices_Repeat_api_Event_api_Event x.1 x.2⟩
noncomputable def A_slices_Repeat_api_Event_api_Event : TA :=
 .prim (.bin .lss) [.v 1, .c (.int .i64 0)] <|
 .ite (.v 2) (
  .fail 153) (
  .prim .len [.v 0] <|
  .prim (.conv .u64) [.v 3] <|
  .prim (.conv .u64) [.v 1] <|
  .call 93 F_math_bits_Mul [.v 4, .v 5] 2 <|
  .subp [.bool] (
   .prim (.bin .gtr) [.v 6, .c (.int .u64 0)] <|
   .ite (.v 8) (
    .jmp 0 false [.c (.bool true)]) (
    .prim (.bin .gtr) [.v 7, .c (.int .u64 9223372036854775807)] <|
    .jmp 0 false [.v 9])) 1 <|
  .ite (.v 8) (
   .fail 153) (
   .prim (.conv .i64) [.v 7] <|
   .primH (.rep (.agg [(.int .i64 0), (.int .i64 0), (.int .i64 0)]) 24) (.sl tEvent) [.v 9, .v 9] <|
   .prim .len [.v 10] <|
   .prim .cpyv [.v 10, .c (.int .i64 0), .v 11, .v 0] <|
   .prim .vlen [.c (.int .i64 0), .v 11] <|
   .prim .len [.v 0] <|
   .prim .min2 [.v 14, .v 13] <|
   .sub0 [.sl tEvent] (
    .loop [.int .i64, .sl tEvent] [.v 15, .v 12] (
     .prim .len [.v 17] <|
     .prim (.bin .lss) [.v 16, .v 18] <|
     .ite (.v 19) (
      .prim .len [.v 17] <|
      .prim .rng [.v 17, .v 16, .v 20] <|
      .prim .len [.v 17] <|
      .prim .rng [.v 17, .c (.int .i64 0), .v 16] <|
      .prim .sub [.v 17, .c (.int .i64 0), .v 23] <|
      .prim .cpyv [.v 17, .v 16, .v 21, .v 24] <|
      .prim .vlen [.v 16, .v 21] <|
      .prim .len [.v 24] <|
      .prim .min2 [.v 27, .v 26] <|
      .prim (.bin .add) [.v 16, .v 28] <|
      .jmp 0 true [.v 29, .v 25]) (
      .jmp 1 false [.v 17]))) 1 <|
   .jmp 0 false [.v 16]))
theorem a_slices_Repeat_api_Event_api_Event : treeOf cx 12 67 = some A_slices_Repeat_api_Event_api_Event.erase := by kernel_rfl
theorem k_slices_Repeat_api_Event_api_Event : FnOk cx 12 noC 67 F_slices_Repeat_api_Event_api_Event := fn_ok (t := A_slices_Repeat_api_Event_api_Event) a_slices_Repeat_api_Event_api_Event (fun _ => rfl) (ok_of [(93, F_math_bits_Mul)] (by kernel_rfl) (.cons k_math_bits_Mul .nil)) (fun x => by kernel_rfl)

/-! 16: backstay/fair.Is -/
noncomputable def fair_Is (p0 : List Event) (p1 : Int) (p2 : Int) : Option Bool :=
  (
    if fair_may p1 then
      if decide ((1 : Int) ≤ p2) then
        if decide ((List.length p0 : Int) < p2) then
          some (true)
        else
          (fair_Least p0 p1).bind fun v7 =>
          some ((decide (v7 ≤ p2)))
      else
        some (false)
    else
      some (false) : Option Bool).bind fun v3 =>
  some (v3)
noncomputable def F_fair_Is : FnT := ⟨[.sl tEvent, .int .i64, .int .i64], [.bool], fun x => fair_Is x.1 x.2.1 x.2.2⟩
noncomputable def A_fair_Is : TA :=
 .sub0 [.bool] (
  .callp 61 F_fair_may [.v 1] 1 <|
  .ite (.v 3) (
   .prim (.bin .geq) [.v 2, .c (.int .i64 1)] <|
   .ite (.v 4) (
    .prim .len [.v 0] <|
    .prim (.bin .lss) [.v 5, .v 2] <|
    .ite (.v 6) (
     .jmp 0 false [.c (.bool true)]) (
     .call 20 F_fair_Least [.v 0, .v 1] 1 <|
     .prim (.bin .leq) [.v 7, .v 2] <|
     .jmp 0 false [.v 8])) (
    .jmp 0 false [.c (.bool false)])) (
   .jmp 0 false [.c (.bool false)])) 1 <|
 .jmp 0 false [.v 3]
theorem a_fair_Is : treeOf cx 12 16 = some A_fair_Is.erase := by kernel_rfl
theorem k_fair_Is : FnOk cx 12 noC 16 F_fair_Is := fn_ok (t := A_fair_Is) a_fair_Is (fun _ => rfl) (ok_of [(61, F_fair_may.fn), (20, F_fair_Least)] (by kernel_rfl) (.cons k_fair_may (.cons k_fair_Least .nil))) (fun x => by kernel_rfl)

/-! 23: backstay/fair.Turns -/
noncomputable def fair_Turns_L1 (x2 : Int) (s : (Int × (List Event))) : Option ((Int × (List Event)) ⊕ (List Event)) :=
  if decide (s.1 < x2) then
    (appO 24 s.2 ([(Event.mk (2 : Int) (0 : Int) (0 : Int))] : List Event)).bind fun v8 =>
    some (Sum.inl (w64 (s.1 + (1 : Int)), v8))
  else
    some (Sum.inr (s.2))
noncomputable def fair_Turns_L2 (x0 : Int) (s : (Int × (List Event))) : Option ((Int × (List Event)) ⊕ (List Event)) :=
  if decide (s.1 < x0) then
    (appO 24 s.2 ([Event.mk (1 : Int) s.1 (0 : Int)] : List Event)).bind fun v9 =>
    some (Sum.inl (w64 (s.1 + (1 : Int)), v9))
  else
    some (Sum.inr (s.2))
noncomputable def fair_Turns (p0 : Int) (p1 : Int) (p2 : Int) : Option (List Event) :=
  if (!(fair_may p0)) || ((decide (p1 < (0 : Int))) || ((decide ((1000 : Int) < p1)) || ((decide (p2 < (0 : Int))) || (decide ((100 : Int) < p2))))) then
    some (([] : List Event))
  else
    (
      loopD (fair_Turns_L2 p0) ((0 : Int), ([] : List Event)) : Option (List Event)).bind fun v4 =>
    (
      loopD (fair_Turns_L1 p2) ((0 : Int), v4) : Option (List Event)).bind fun v5 =>
    (appO 24 v5 ([(Event.mk (5 : Int) (0 : Int) (0 : Int)), (Event.mk (4 : Int) (0 : Int) (0 : Int))] : List Event)).bind fun v6 =>
    (slices_Repeat_api_Event_api_Event v6 p1).bind fun v7 =>
    some (v7)
noncomputable def F_fair_Turns : FnT := ⟨[.int .i64, .int .i64, .int .i64], [.sl tEvent], fun x => fair_Turns x.1 x.2.1 x.2.2⟩
noncomputable def A_fair_Turns : TA :=
 .subp [.bool] (
  .callp 61 F_fair_may [.v 0] 1 <|
  .prim (.un .not) [.v 3] <|
  .ite (.v 4) (
   .jmp 0 false [.c (.bool true)]) (
   .prim (.bin .lss) [.v 1, .c (.int .i64 0)] <|
   .ite (.v 5) (
    .jmp 0 false [.c (.bool true)]) (
    .prim (.bin .gtr) [.v 1, .c (.int .i64 1000)] <|
    .ite (.v 6) (
     .jmp 0 false [.c (.bool true)]) (
     .prim (.bin .lss) [.v 2, .c (.int .i64 0)] <|
     .ite (.v 7) (
      .jmp 0 false [.c (.bool true)]) (
      .prim (.bin .gtr) [.v 2, .c (.int .i64 100)] <|
      .jmp 0 false [.v 8]))))) 1 <|
 .ite (.v 3) (
  .jmp 0 false [.c .nil]) (
  .sub0 [.sl tEvent] (
   .loop [.int .i64, .sl tEvent] [.c (.int .i64 0), .c .nil] (
    .prim (.bin .lss) [.v 4, .v 0] <|
    .ite (.v 6) (
     .mkS tsEvent [.c (.int .i64 1), .v 4, .c (.int .i64 0)] <|
     .mkL tEvent [.v 7] <|
     .prim (.app 24) [.v 5, .v 8] <|
     .prim (.bin .add) [.v 4, .c (.int .i64 1)] <|
     .jmp 0 true [.v 10, .v 9]) (
     .jmp 1 false [.v 5]))) 1 <|
  .sub0 [.sl tEvent] (
   .loop [.int .i64, .sl tEvent] [.c (.int .i64 0), .v 4] (
    .prim (.bin .lss) [.v 5, .v 2] <|
    .ite (.v 7) (
     .primH (.app 24) (.sl tEvent) [.v 6, .c (.sl [(.agg [(.int .i64 2), (.int .i64 0), (.int .i64 0)])])] <|
     .prim (.bin .add) [.v 5, .c (.int .i64 1)] <|
     .jmp 0 true [.v 9, .v 8]) (
     .jmp 1 false [.v 6]))) 1 <|
  .primH (.app 24) (.sl tEvent) [.v 5, .c (.sl [(.agg [(.int .i64 5), (.int .i64 0), (.int .i64 0)]), (.agg [(.int .i64 4), (.int .i64 0), (.int .i64 0)])])] <|
  .call 67 F_slices_Repeat_api_Event_api_Event [.v 6, .v 1] 1 <|
  .jmp 0 false [.v 7])
theorem a_fair_Turns : treeOf cx 12 23 = some A_fair_Turns.erase := by kernel_rfl
theorem k_fair_Turns : FnOk cx 12 noC 23 F_fair_Turns := fn_ok (t := A_fair_Turns) a_fair_Turns (fun _ => rfl) (ok_of [(61, F_fair_may.fn), (67, F_slices_Repeat_api_Event_api_Event)] (by kernel_rfl) (.cons k_fair_may (.cons k_slices_Repeat_api_Event_api_Event .nil))) (fun x => by kernel_rfl)

/-! 14: backstay/backstaylaw23.awake -/
def l23_awake : Bool := true
def F_l23_awake : PnT := ⟨[], [.bool], fun _ => l23_awake⟩
theorem k_l23_awake : FnOk cx 12 noC 14 F_l23_awake.fn := fun ds x r hx hr => by
  have hx : ds = [] := hx
  subst hx
  exact ⟨[.bool true], call_now 100 12 (by kernel_rfl), .bool true, rfl, congrArg D.bool (Option.some.inj hr)⟩

end Go.Proofs.Ytflnpiknckdmfaa
