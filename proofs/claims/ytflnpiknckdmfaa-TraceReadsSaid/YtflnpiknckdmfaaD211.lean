/- The types of this cut, and its functions as functions of plain typed data. Printed by a program of this claim's prover; each is checked here to be what the executor makes of the code. -/
import Derived.Test.YtflnpiknckdmfaaProg
import Derived.Test.YtflnpiknckdmfaaLim
import Derived.KernelRfl
set_option linter.unusedVariables false
set_option maxRecDepth 100000
namespace Go.Proofs.Ytflnpiknckdmfaa
open Go.SX
abbrev tsl07_Put : List Ty := [.int .u8, .int .u8, .int .u32]
abbrev tl07_Put : Ty := .st tsl07_Put
abbrev l07_Put : Type := Int × Int × Int
def l07_Put.mk (Bank : Int) (At : Int) (Word : Int) : l07_Put := (Bank, At, Word)
def l07_Put.Bank (x : l07_Put) : Int := x.1
def l07_Put.At (x : l07_Put) : Int := x.2.1
def l07_Put.Word (x : l07_Put) : Int := x.2.2
def l07_Put.setBank (x : l07_Put) (v : Int) : l07_Put := (v, x.2.1, x.2.2)
def l07_Put.setAt (x : l07_Put) (v : Int) : l07_Put := (x.1, v, x.2.2)
def l07_Put.setWord (x : l07_Put) (v : Int) : l07_Put := (x.1, x.2.1, v)
@[simp] theorem l07_Put.Bank_mk (Bank : Int) (At : Int) (Word : Int) : l07_Put.Bank (l07_Put.mk Bank At Word) = Bank := rfl
@[simp] theorem l07_Put.At_mk (Bank : Int) (At : Int) (Word : Int) : l07_Put.At (l07_Put.mk Bank At Word) = At := rfl
@[simp] theorem l07_Put.Word_mk (Bank : Int) (At : Int) (Word : Int) : l07_Put.Word (l07_Put.mk Bank At Word) = Word := rfl
@[simp] theorem l07_Put.setBank_eq (x : l07_Put) (v : Int) : l07_Put.setBank x v = l07_Put.mk v (l07_Put.At x) (l07_Put.Word x) := rfl
@[simp] theorem l07_Put.setAt_eq (x : l07_Put) (v : Int) : l07_Put.setAt x v = l07_Put.mk (l07_Put.Bank x) v (l07_Put.Word x) := rfl
@[simp] theorem l07_Put.setWord_eq (x : l07_Put) (v : Int) : l07_Put.setWord x v = l07_Put.mk (l07_Put.Bank x) (l07_Put.At x) v := rfl
@[simp] theorem l07_Put.eta (x : l07_Put) : l07_Put.mk (l07_Put.Bank x) (l07_Put.At x) (l07_Put.Word x) = x := rfl

abbrev tsEvent : List Ty := [.int .i64, .int .i64, .int .i64]
abbrev tEvent : Ty := .st tsEvent
abbrev Event : Type := Int × Int × Int
def Event.mk (Kind : Int) (N : Int) (K : Int) : Event := (Kind, N, K)
def Event.Kind (x : Event) : Int := x.1
def Event.N (x : Event) : Int := x.2.1
def Event.K (x : Event) : Int := x.2.2
def Event.setKind (x : Event) (v : Int) : Event := (v, x.2.1, x.2.2)
def Event.setN (x : Event) (v : Int) : Event := (x.1, v, x.2.2)
def Event.setK (x : Event) (v : Int) : Event := (x.1, x.2.1, v)
@[simp] theorem Event.Kind_mk (Kind : Int) (N : Int) (K : Int) : Event.Kind (Event.mk Kind N K) = Kind := rfl
@[simp] theorem Event.N_mk (Kind : Int) (N : Int) (K : Int) : Event.N (Event.mk Kind N K) = N := rfl
@[simp] theorem Event.K_mk (Kind : Int) (N : Int) (K : Int) : Event.K (Event.mk Kind N K) = K := rfl
@[simp] theorem Event.setKind_eq (x : Event) (v : Int) : Event.setKind x v = Event.mk v (Event.N x) (Event.K x) := rfl
@[simp] theorem Event.setN_eq (x : Event) (v : Int) : Event.setN x v = Event.mk (Event.Kind x) v (Event.K x) := rfl
@[simp] theorem Event.setK_eq (x : Event) (v : Int) : Event.setK x v = Event.mk (Event.Kind x) (Event.N x) v := rfl
@[simp] theorem Event.eta (x : Event) : Event.mk (Event.Kind x) (Event.N x) (Event.K x) = x := rfl

abbrev tsWant : List Ty := [.int .i64, .int .i64, .int .u32, .int .u32]
abbrev tWant : Ty := .st tsWant
abbrev Want : Type := Int × Int × Int × Int
def Want.mk (Kind : Int) (At : Int) (Val : Int) (Old : Int) : Want := (Kind, At, Val, Old)
def Want.Kind (x : Want) : Int := x.1
def Want.At (x : Want) : Int := x.2.1
def Want.Val (x : Want) : Int := x.2.2.1
def Want.Old (x : Want) : Int := x.2.2.2
def Want.setKind (x : Want) (v : Int) : Want := (v, x.2.1, x.2.2.1, x.2.2.2)
def Want.setAt (x : Want) (v : Int) : Want := (x.1, v, x.2.2.1, x.2.2.2)
def Want.setVal (x : Want) (v : Int) : Want := (x.1, x.2.1, v, x.2.2.2)
def Want.setOld (x : Want) (v : Int) : Want := (x.1, x.2.1, x.2.2.1, v)
@[simp] theorem Want.Kind_mk (Kind : Int) (At : Int) (Val : Int) (Old : Int) : Want.Kind (Want.mk Kind At Val Old) = Kind := rfl
@[simp] theorem Want.At_mk (Kind : Int) (At : Int) (Val : Int) (Old : Int) : Want.At (Want.mk Kind At Val Old) = At := rfl
@[simp] theorem Want.Val_mk (Kind : Int) (At : Int) (Val : Int) (Old : Int) : Want.Val (Want.mk Kind At Val Old) = Val := rfl
@[simp] theorem Want.Old_mk (Kind : Int) (At : Int) (Val : Int) (Old : Int) : Want.Old (Want.mk Kind At Val Old) = Old := rfl
@[simp] theorem Want.setKind_eq (x : Want) (v : Int) : Want.setKind x v = Want.mk v (Want.At x) (Want.Val x) (Want.Old x) := rfl
@[simp] theorem Want.setAt_eq (x : Want) (v : Int) : Want.setAt x v = Want.mk (Want.Kind x) v (Want.Val x) (Want.Old x) := rfl
@[simp] theorem Want.setVal_eq (x : Want) (v : Int) : Want.setVal x v = Want.mk (Want.Kind x) (Want.At x) v (Want.Old x) := rfl
@[simp] theorem Want.setOld_eq (x : Want) (v : Int) : Want.setOld x v = Want.mk (Want.Kind x) (Want.At x) (Want.Val x) v := rfl
@[simp] theorem Want.eta (x : Want) : Want.mk (Want.Kind x) (Want.At x) (Want.Val x) (Want.Old x) = x := rfl

abbrev tsDeed : List Ty := [.int .i64, .int .i64, .int .i64, .int .u32, .int .u32]
abbrev tDeed : Ty := .st tsDeed
abbrev Deed : Type := Int × Int × Int × Int × Int
def Deed.mk (Core : Int) (Kind : Int) (At : Int) (Was : Int) (Val : Int) : Deed := (Core, Kind, At, Was, Val)
def Deed.Core (x : Deed) : Int := x.1
def Deed.Kind (x : Deed) : Int := x.2.1
def Deed.At (x : Deed) : Int := x.2.2.1
def Deed.Was (x : Deed) : Int := x.2.2.2.1
def Deed.Val (x : Deed) : Int := x.2.2.2.2
def Deed.setCore (x : Deed) (v : Int) : Deed := (v, x.2.1, x.2.2.1, x.2.2.2.1, x.2.2.2.2)
def Deed.setKind (x : Deed) (v : Int) : Deed := (x.1, v, x.2.2.1, x.2.2.2.1, x.2.2.2.2)
def Deed.setAt (x : Deed) (v : Int) : Deed := (x.1, x.2.1, v, x.2.2.2.1, x.2.2.2.2)
def Deed.setWas (x : Deed) (v : Int) : Deed := (x.1, x.2.1, x.2.2.1, v, x.2.2.2.2)
def Deed.setVal (x : Deed) (v : Int) : Deed := (x.1, x.2.1, x.2.2.1, x.2.2.2.1, v)
@[simp] theorem Deed.Core_mk (Core : Int) (Kind : Int) (At : Int) (Was : Int) (Val : Int) : Deed.Core (Deed.mk Core Kind At Was Val) = Core := rfl
@[simp] theorem Deed.Kind_mk (Core : Int) (Kind : Int) (At : Int) (Was : Int) (Val : Int) : Deed.Kind (Deed.mk Core Kind At Was Val) = Kind := rfl
@[simp] theorem Deed.At_mk (Core : Int) (Kind : Int) (At : Int) (Was : Int) (Val : Int) : Deed.At (Deed.mk Core Kind At Was Val) = At := rfl
@[simp] theorem Deed.Was_mk (Core : Int) (Kind : Int) (At : Int) (Was : Int) (Val : Int) : Deed.Was (Deed.mk Core Kind At Was Val) = Was := rfl
@[simp] theorem Deed.Val_mk (Core : Int) (Kind : Int) (At : Int) (Was : Int) (Val : Int) : Deed.Val (Deed.mk Core Kind At Was Val) = Val := rfl
@[simp] theorem Deed.setCore_eq (x : Deed) (v : Int) : Deed.setCore x v = Deed.mk v (Deed.Kind x) (Deed.At x) (Deed.Was x) (Deed.Val x) := rfl
@[simp] theorem Deed.setKind_eq (x : Deed) (v : Int) : Deed.setKind x v = Deed.mk (Deed.Core x) v (Deed.At x) (Deed.Was x) (Deed.Val x) := rfl
@[simp] theorem Deed.setAt_eq (x : Deed) (v : Int) : Deed.setAt x v = Deed.mk (Deed.Core x) (Deed.Kind x) v (Deed.Was x) (Deed.Val x) := rfl
@[simp] theorem Deed.setWas_eq (x : Deed) (v : Int) : Deed.setWas x v = Deed.mk (Deed.Core x) (Deed.Kind x) (Deed.At x) v (Deed.Val x) := rfl
@[simp] theorem Deed.setVal_eq (x : Deed) (v : Int) : Deed.setVal x v = Deed.mk (Deed.Core x) (Deed.Kind x) (Deed.At x) (Deed.Was x) v := rfl
@[simp] theorem Deed.eta (x : Deed) : Deed.mk (Deed.Core x) (Deed.Kind x) (Deed.At x) (Deed.Was x) (Deed.Val x) = x := rfl

abbrev tsIns : List Ty := [.int .i64, .int .i64, .int .i64, .int .i64, .int .u32]
abbrev tIns : Ty := .st tsIns
abbrev Ins : Type := Int × Int × Int × Int × Int
def Ins.mk (Op : Int) (A : Int) (B : Int) (C : Int) (K : Int) : Ins := (Op, A, B, C, K)
def Ins.Op (x : Ins) : Int := x.1
def Ins.A (x : Ins) : Int := x.2.1
def Ins.B (x : Ins) : Int := x.2.2.1
def Ins.C (x : Ins) : Int := x.2.2.2.1
def Ins.K (x : Ins) : Int := x.2.2.2.2
def Ins.setOp (x : Ins) (v : Int) : Ins := (v, x.2.1, x.2.2.1, x.2.2.2.1, x.2.2.2.2)
def Ins.setA (x : Ins) (v : Int) : Ins := (x.1, v, x.2.2.1, x.2.2.2.1, x.2.2.2.2)
def Ins.setB (x : Ins) (v : Int) : Ins := (x.1, x.2.1, v, x.2.2.2.1, x.2.2.2.2)
def Ins.setC (x : Ins) (v : Int) : Ins := (x.1, x.2.1, x.2.2.1, v, x.2.2.2.2)
def Ins.setK (x : Ins) (v : Int) : Ins := (x.1, x.2.1, x.2.2.1, x.2.2.2.1, v)
@[simp] theorem Ins.Op_mk (Op : Int) (A : Int) (B : Int) (C : Int) (K : Int) : Ins.Op (Ins.mk Op A B C K) = Op := rfl
@[simp] theorem Ins.A_mk (Op : Int) (A : Int) (B : Int) (C : Int) (K : Int) : Ins.A (Ins.mk Op A B C K) = A := rfl
@[simp] theorem Ins.B_mk (Op : Int) (A : Int) (B : Int) (C : Int) (K : Int) : Ins.B (Ins.mk Op A B C K) = B := rfl
@[simp] theorem Ins.C_mk (Op : Int) (A : Int) (B : Int) (C : Int) (K : Int) : Ins.C (Ins.mk Op A B C K) = C := rfl
@[simp] theorem Ins.K_mk (Op : Int) (A : Int) (B : Int) (C : Int) (K : Int) : Ins.K (Ins.mk Op A B C K) = K := rfl
@[simp] theorem Ins.setOp_eq (x : Ins) (v : Int) : Ins.setOp x v = Ins.mk v (Ins.A x) (Ins.B x) (Ins.C x) (Ins.K x) := rfl
@[simp] theorem Ins.setA_eq (x : Ins) (v : Int) : Ins.setA x v = Ins.mk (Ins.Op x) v (Ins.B x) (Ins.C x) (Ins.K x) := rfl
@[simp] theorem Ins.setB_eq (x : Ins) (v : Int) : Ins.setB x v = Ins.mk (Ins.Op x) (Ins.A x) v (Ins.C x) (Ins.K x) := rfl
@[simp] theorem Ins.setC_eq (x : Ins) (v : Int) : Ins.setC x v = Ins.mk (Ins.Op x) (Ins.A x) (Ins.B x) v (Ins.K x) := rfl
@[simp] theorem Ins.setK_eq (x : Ins) (v : Int) : Ins.setK x v = Ins.mk (Ins.Op x) (Ins.A x) (Ins.B x) (Ins.C x) v := rfl
@[simp] theorem Ins.eta (x : Ins) : Ins.mk (Ins.Op x) (Ins.A x) (Ins.B x) (Ins.C x) (Ins.K x) = x := rfl

abbrev tsruntime_errorAddressString : List Ty := [.str, .int .u64]
abbrev truntime_errorAddressString : Ty := .st tsruntime_errorAddressString
abbrev runtime_errorAddressString : Type := (List Int) × Int
def runtime_errorAddressString.mk (msg : List Int) (addr : Int) : runtime_errorAddressString := (msg, addr)
def runtime_errorAddressString.msg (x : runtime_errorAddressString) : List Int := x.1
def runtime_errorAddressString.addr (x : runtime_errorAddressString) : Int := x.2
def runtime_errorAddressString.setmsg (x : runtime_errorAddressString) (v : List Int) : runtime_errorAddressString := (v, x.2)
def runtime_errorAddressString.setaddr (x : runtime_errorAddressString) (v : Int) : runtime_errorAddressString := (x.1, v)
@[simp] theorem runtime_errorAddressString.msg_mk (msg : List Int) (addr : Int) : runtime_errorAddressString.msg (runtime_errorAddressString.mk msg addr) = msg := rfl
@[simp] theorem runtime_errorAddressString.addr_mk (msg : List Int) (addr : Int) : runtime_errorAddressString.addr (runtime_errorAddressString.mk msg addr) = addr := rfl
@[simp] theorem runtime_errorAddressString.setmsg_eq (x : runtime_errorAddressString) (v : List Int) : runtime_errorAddressString.setmsg x v = runtime_errorAddressString.mk v (runtime_errorAddressString.addr x) := rfl
@[simp] theorem runtime_errorAddressString.setaddr_eq (x : runtime_errorAddressString) (v : Int) : runtime_errorAddressString.setaddr x v = runtime_errorAddressString.mk (runtime_errorAddressString.msg x) v := rfl
@[simp] theorem runtime_errorAddressString.eta (x : runtime_errorAddressString) : runtime_errorAddressString.mk (runtime_errorAddressString.msg x) (runtime_errorAddressString.addr x) = x := rfl

abbrev tsruntime_boundsError : List Ty := [.int .i64, .int .i64, .bool, .int .u8]
abbrev truntime_boundsError : Ty := .st tsruntime_boundsError
abbrev runtime_boundsError : Type := Int × Int × Bool × Int
def runtime_boundsError.mk (x : Int) (y : Int) (signed : Bool) (code : Int) : runtime_boundsError := (x, y, signed, code)
def runtime_boundsError.x (x : runtime_boundsError) : Int := x.1
def runtime_boundsError.y (x : runtime_boundsError) : Int := x.2.1
def runtime_boundsError.signed (x : runtime_boundsError) : Bool := x.2.2.1
def runtime_boundsError.code (x : runtime_boundsError) : Int := x.2.2.2
def runtime_boundsError.setx (x : runtime_boundsError) (v : Int) : runtime_boundsError := (v, x.2.1, x.2.2.1, x.2.2.2)
def runtime_boundsError.sety (x : runtime_boundsError) (v : Int) : runtime_boundsError := (x.1, v, x.2.2.1, x.2.2.2)
def runtime_boundsError.setsigned (x : runtime_boundsError) (v : Bool) : runtime_boundsError := (x.1, x.2.1, v, x.2.2.2)
def runtime_boundsError.setcode (x : runtime_boundsError) (v : Int) : runtime_boundsError := (x.1, x.2.1, x.2.2.1, v)
@[simp] theorem runtime_boundsError.x_mk (x : Int) (y : Int) (signed : Bool) (code : Int) : runtime_boundsError.x (runtime_boundsError.mk x y signed code) = x := rfl
@[simp] theorem runtime_boundsError.y_mk (x : Int) (y : Int) (signed : Bool) (code : Int) : runtime_boundsError.y (runtime_boundsError.mk x y signed code) = y := rfl
@[simp] theorem runtime_boundsError.signed_mk (x : Int) (y : Int) (signed : Bool) (code : Int) : runtime_boundsError.signed (runtime_boundsError.mk x y signed code) = signed := rfl
@[simp] theorem runtime_boundsError.code_mk (x : Int) (y : Int) (signed : Bool) (code : Int) : runtime_boundsError.code (runtime_boundsError.mk x y signed code) = code := rfl
@[simp] theorem runtime_boundsError.setx_eq (x : runtime_boundsError) (v : Int) : runtime_boundsError.setx x v = runtime_boundsError.mk v (runtime_boundsError.y x) (runtime_boundsError.signed x) (runtime_boundsError.code x) := rfl
@[simp] theorem runtime_boundsError.sety_eq (x : runtime_boundsError) (v : Int) : runtime_boundsError.sety x v = runtime_boundsError.mk (runtime_boundsError.x x) v (runtime_boundsError.signed x) (runtime_boundsError.code x) := rfl
@[simp] theorem runtime_boundsError.setsigned_eq (x : runtime_boundsError) (v : Bool) : runtime_boundsError.setsigned x v = runtime_boundsError.mk (runtime_boundsError.x x) (runtime_boundsError.y x) v (runtime_boundsError.code x) := rfl
@[simp] theorem runtime_boundsError.setcode_eq (x : runtime_boundsError) (v : Int) : runtime_boundsError.setcode x v = runtime_boundsError.mk (runtime_boundsError.x x) (runtime_boundsError.y x) (runtime_boundsError.signed x) v := rfl
@[simp] theorem runtime_boundsError.eta (x : runtime_boundsError) : runtime_boundsError.mk (runtime_boundsError.x x) (runtime_boundsError.y x) (runtime_boundsError.signed x) (runtime_boundsError.code x) = x := rfl

abbrev tsCore : List Ty := [.arr 8 (.int .u32), .int .i64, .bool]
abbrev tCore : Ty := .st tsCore
abbrev Core : Type := (List Int) × Int × Bool
def Core.mk (Regs : List Int) (PC : Int) (Halted : Bool) : Core := (Regs, PC, Halted)
def Core.Regs (x : Core) : List Int := x.1
def Core.PC (x : Core) : Int := x.2.1
def Core.Halted (x : Core) : Bool := x.2.2
def Core.setRegs (x : Core) (v : List Int) : Core := (v, x.2.1, x.2.2)
def Core.setPC (x : Core) (v : Int) : Core := (x.1, v, x.2.2)
def Core.setHalted (x : Core) (v : Bool) : Core := (x.1, x.2.1, v)
@[simp] theorem Core.Regs_mk (Regs : List Int) (PC : Int) (Halted : Bool) : Core.Regs (Core.mk Regs PC Halted) = Regs := rfl
@[simp] theorem Core.PC_mk (Regs : List Int) (PC : Int) (Halted : Bool) : Core.PC (Core.mk Regs PC Halted) = PC := rfl
@[simp] theorem Core.Halted_mk (Regs : List Int) (PC : Int) (Halted : Bool) : Core.Halted (Core.mk Regs PC Halted) = Halted := rfl
@[simp] theorem Core.setRegs_eq (x : Core) (v : List Int) : Core.setRegs x v = Core.mk v (Core.PC x) (Core.Halted x) := rfl
@[simp] theorem Core.setPC_eq (x : Core) (v : Int) : Core.setPC x v = Core.mk (Core.Regs x) v (Core.Halted x) := rfl
@[simp] theorem Core.setHalted_eq (x : Core) (v : Bool) : Core.setHalted x v = Core.mk (Core.Regs x) (Core.PC x) v := rfl
@[simp] theorem Core.eta (x : Core) : Core.mk (Core.Regs x) (Core.PC x) (Core.Halted x) = x := rfl

abbrev tsBanks : List Ty := [.sl (.sl (.int .u32)), .sl (.int .u32), .int .i64]
abbrev tBanks : Ty := .st tsBanks
abbrev Banks : Type := (List (List Int)) × (List Int) × Int
def Banks.mk (Rows : List (List Int)) (Par : List Int) (Lost : Int) : Banks := (Rows, Par, Lost)
def Banks.Rows (x : Banks) : List (List Int) := x.1
def Banks.Par (x : Banks) : List Int := x.2.1
def Banks.Lost (x : Banks) : Int := x.2.2
def Banks.setRows (x : Banks) (v : List (List Int)) : Banks := (v, x.2.1, x.2.2)
def Banks.setPar (x : Banks) (v : List Int) : Banks := (x.1, v, x.2.2)
def Banks.setLost (x : Banks) (v : Int) : Banks := (x.1, x.2.1, v)
@[simp] theorem Banks.Rows_mk (Rows : List (List Int)) (Par : List Int) (Lost : Int) : Banks.Rows (Banks.mk Rows Par Lost) = Rows := rfl
@[simp] theorem Banks.Par_mk (Rows : List (List Int)) (Par : List Int) (Lost : Int) : Banks.Par (Banks.mk Rows Par Lost) = Par := rfl
@[simp] theorem Banks.Lost_mk (Rows : List (List Int)) (Par : List Int) (Lost : Int) : Banks.Lost (Banks.mk Rows Par Lost) = Lost := rfl
@[simp] theorem Banks.setRows_eq (x : Banks) (v : List (List Int)) : Banks.setRows x v = Banks.mk v (Banks.Par x) (Banks.Lost x) := rfl
@[simp] theorem Banks.setPar_eq (x : Banks) (v : List Int) : Banks.setPar x v = Banks.mk (Banks.Rows x) v (Banks.Lost x) := rfl
@[simp] theorem Banks.setLost_eq (x : Banks) (v : Int) : Banks.setLost x v = Banks.mk (Banks.Rows x) (Banks.Par x) v := rfl
@[simp] theorem Banks.eta (x : Banks) : Banks.mk (Banks.Rows x) (Banks.Par x) (Banks.Lost x) = x := rfl

def tys : List Ty := [.no, .no, .int .i64, .int .i64, .bool, .int .u8, .int .u8, truntime_boundsError, truntime_boundsError, .str, .str, .str, .int .u64, truntime_errorAddressString, truntime_errorAddressString, .no, .no, .no, .no, .no, .no, .int .i32, .sl tEvent, tEvent, tEvent, .no, .arr 9 (.int .i64), .no, .no, .no, .no, .no, .no, .no, .no, .sl (.sl (.int .u32)), .sl (.int .u32), tBanks, tBanks, .int .u32, .no, .int .i64, .no, .no, .no, .no, .no, .no, .no, .no, .no, .no, .no, .no, .no, .no, .no, .no, .sl tl07_Put, tl07_Put, tl07_Put, .no, .no, .sl tDeed, .sl .bool, .no, .no, .no, .no, .no, .no, .no, .sl (.int .i64), .no, .no, .no, .no, .no, tDeed, tDeed, .no, .no, .sl tIns, .arr 8 (.int .u32), tCore, tCore, .no, tWant, tWant, .no, .no, .no, .no, .no, .no, .no, .no, .no, .no, .no, .no, .no, .no, .no, .no, .no, .no, .no, .no, .no, .no, .no, .no, .no, .no, .no, .no, .no, tIns, tIns, .no, .no, .no, .no, .int .u64, .no, .no, .no, .no, .no, .no, .sl (.sl tDeed), .no, .no, .no, .int .u64, .no, .no, .no, .no, .no, .no, .no, .no, .no, .no, .no, .no, .no, .no, .no, .no, .no, .no, .no, .no, .int .u8, .int .u8, .no, .no, .int .i32, .int .i32, .no, .no, .no]
noncomputable def cx : Cx := { P := Try.prog, ty := tys, own := [], inl := [36, 70, 78, 79, 84, 86, 94, 98], keepL := [], absL := [6, 36, 70, 73, 78], heads := [(8, [(20, 2466881006677330745625352927997785279511, ⟨21, 0, mkSlots 132 0 [(0, .d (.sl tDeed) (.v 0)), (1, .d (.sl tDeed) (.v 1)), (2, .d (.sl .bool) (.v 2)), (4, .d (.int .i64) (.v 4)), (10, .d .bool (.c (.bool false))), (11, .h tDeed 0 none), (18, .d (.sl (.int .i64)) (.v 16)), (19, .d (.int .i64) (.v 20))], [.fz tDeed (.v 8)]⟩)])] }
theorem tyOk : TysOk cx := chkTys_ok (by kernel_rfl)
theorem mixed : Try.prog.follows .mixedOrders = true := by kernel_rfl
def noC : FuncId → List D → Option (List D) := fun _ _ => none
theorem noC_ok : CallsOk cx noC := fun _ _ _ _ _ _ _ h => by cases h
theorem call_now {f : FuncId} {ds rs : List D} (k d : Nat) (h : callF cx k 12 noC d f ds = some rs) : callL cx 12 noC f ds = some rs := (callL_some cx 12 noC).2 ⟨k, d, h⟩

/-! 44: backstay/backstayref04.Words -/
noncomputable def r04_Words_L1 (x0 : List Int) (x1 : List Int) (s : Int) : Option (Int ⊕ Unit ⊕ Bool) :=
  if decide (s < (List.length x0 : Int)) then
    (getO x0 s).bind fun v8 =>
    (getO x1 s).bind fun v9 =>
    if !decide (v8 = v9) then
      some (Sum.inr (Sum.inr (false)))
    else
      some (Sum.inl (w64 (s + (1 : Int))))
  else
    some (Sum.inr (Sum.inl ()))
noncomputable def r04_Words (p0 : List Int) (p1 : List Int) : Option Bool :=
  if !decide ((List.length p0 : Int) = (List.length p1 : Int)) then
    some (false)
  else
    orExit (
      loopD (r04_Words_L1 p0 p1) (0 : Int) : Option (Unit ⊕ Bool)) fun v5 =>
    some (true)
noncomputable def F_r04_Words : FnT := ⟨[.sl (.int .u32), .sl (.int .u32)], [.bool], fun x => r04_Words x.1 x.2⟩
noncomputable def A_r04_Words : TA :=
 .prim .len [.v 0] <|
 .prim .len [.v 1] <|
 .prim (.bin .neq) [.v 2, .v 3] <|
 .ite (.v 4) (
  .jmp 0 false [.c (.bool false)]) (
  .sub1 [] (
   .loop [.int .i64] [.c (.int .i64 0)] (
    .prim .len [.v 0] <|
    .prim (.bin .lss) [.v 5, .v 6] <|
    .ite (.v 7) (
     .prim .get [.v 0, .v 5] <|
     .prim .get [.v 1, .v 5] <|
     .prim (.bin .neq) [.v 8, .v 9] <|
     .ite (.v 10) (
      .jmp 2 false [.c (.bool false)]) (
      .prim (.bin .add) [.v 5, .c (.int .i64 1)] <|
      .jmp 0 true [.v 11])) (
     .jmp 1 false []))) 0 <|
  .jmp 0 false [.c (.bool true)])
theorem a_r04_Words : treeOf cx 12 44 = some A_r04_Words.erase := by kernel_rfl
theorem k_r04_Words : FnOk cx 12 noC 44 F_r04_Words := fn_ok (t := A_r04_Words) a_r04_Words (fun _ => rfl) (ok_of [] (by kernel_rfl) .nil) (fun x => by kernel_rfl)

/-! 45: backstay/trace.First -/
noncomputable def trace_First0_L1 (x0 : List Deed) (x4 : Int) (s : (Int × (List Int))) : Option ((Int × (List Int)) ⊕ Unit ⊕ Int) :=
  if decide (s.1 < x4) then
    (getO x0 s.1).bind fun v8 =>
    (
      (
        (
          if decide ((Deed.Core v8) < (0 : Int)) then
            some (true)
          else
            if decide ((4 : Int) ≤ (Deed.Core v8)) then
              some (true)
            else
              if decide ((Deed.At v8) < (0 : Int)) then
                some (true)
              else
                if decide ((List.length s.2 : Int) ≤ (Deed.At v8)) then
                  some (true)
                else
                  if decide ((Deed.Kind v8) < (1 : Int)) then
                    some (true)
                  else
                    if decide ((3 : Int) < (Deed.Kind v8)) then
                      some (true)
                    else
                      (idxO (List.length s.2 : Int) (Deed.At v8)).bind fun v23 =>
                      (getO s.2 v23).bind fun v24 =>
                      if !decide (v24 = (Deed.Was v8)) then
                        some (true)
                      else
                        if decide ((Deed.Kind v8) = (1 : Int)) then
                          some ((!decide ((Deed.Val v8) = (Deed.Was v8))))
                        else
                          some (false) : Option Bool).bind fun v9 =>
        if v9 then
          some ((false, s.2))
        else
          (idxO (List.length s.2 : Int) (Deed.At v8)).bind fun v12 =>
          (setO s.2 v12 (Deed.Val v8)).bind fun v13 =>
          some ((true, v13)) : Option (Bool × (List Int))).bind fun v9 =>
      some ((!v9.1, v9.2)) : Option (Bool × (List Int))).bind fun v9 =>
    if v9.1 then
      some (Sum.inr (Sum.inr (s.1)))
    else
      some (Sum.inl (w64 (s.1 + (1 : Int)), v9.2))
  else
    some (Sum.inr (Sum.inl ()))
noncomputable def trace_First0 (p0 : List Deed) (p1 : Int) : Option Int :=
  (
    if (decide (p1 < (1 : Int))) || (decide ((64 : Int) < p1)) then
      some (([] : List Int))
    else
      (repO (0 : Int) 4 p1 p1).bind fun v3 =>
      some (v3) : Option (List Int)).bind fun v2 =>
  (isnilO v2).bind fun v3 =>
  if v3 then
    some ((0 : Int))
  else
    (
      let v4 : Int := (List.length p0 : Int)
      orExit (
        loopD (trace_First0_L1 p0 v4) ((0 : Int), v2) : Option (Unit ⊕ Int)) fun v5 =>
      some ((-1 : Int)) : Option Int).bind fun v4 =>
    if decide (v4 < (0 : Int)) then
      some ((List.length p0 : Int))
    else
      some (v4)
noncomputable def F_trace_First0 : FnT := ⟨[.sl tDeed, .int .i64], [.int .i64], fun x => trace_First0 x.1 x.2⟩
noncomputable def A_trace_First0 : TA :=
 .sub0 [.sl (.int .u32)] (
  .subp [.bool] (
   .prim (.bin .lss) [.v 1, .c (.int .i64 1)] <|
   .ite (.v 2) (
    .jmp 0 false [.c (.bool true)]) (
    .prim (.bin .gtr) [.v 1, .c (.int .i64 64)] <|
    .jmp 0 false [.v 3])) 1 <|
  .ite (.v 2) (
   .jmp 0 false [.c .nil]) (
   .primH (.rep (.int .u32 0) 4) (.sl (.int .u32)) [.v 1, .v 1] <|
   .jmp 0 false [.v 3])) 1 <|
 .prim .isnil [.v 2] <|
 .ite (.v 3) (
  .jmp 0 false [.c (.int .i64 0)]) (
  .sub0 [.int .i64, .no] (
   .prim .len [.v 0] <|
   .sub1 [.no] (
    .loop [.int .i64, .sl (.int .u32)] [.c (.int .i64 0), .v 2] (
     .prim (.bin .lss) [.v 5, .v 4] <|
     .ite (.v 7) (
      .prim .get [.v 0, .v 5] <|
      .sub0 [.bool, .sl (.int .u32)] (
       .sub0 [.bool, .sl (.int .u32)] (
        .sub0 [.bool] (
         .prim (.fld 0) [.v 8] <|
         .prim (.bin .lss) [.v 9, .c (.int .i64 0)] <|
         .ite (.v 10) (
          .jmp 0 false [.c (.bool true)]) (
          .prim (.fld 0) [.v 8] <|
          .prim (.bin .geq) [.v 11, .c (.int .i64 4)] <|
          .ite (.v 12) (
           .jmp 0 false [.c (.bool true)]) (
           .prim (.fld 2) [.v 8] <|
           .prim (.bin .lss) [.v 13, .c (.int .i64 0)] <|
           .ite (.v 14) (
            .jmp 0 false [.c (.bool true)]) (
            .prim (.fld 2) [.v 8] <|
            .prim .len [.v 6] <|
            .prim (.bin .geq) [.v 15, .v 16] <|
            .ite (.v 17) (
             .jmp 0 false [.c (.bool true)]) (
             .prim (.fld 1) [.v 8] <|
             .prim (.bin .lss) [.v 18, .c (.int .i64 1)] <|
             .ite (.v 19) (
              .jmp 0 false [.c (.bool true)]) (
              .prim (.fld 1) [.v 8] <|
              .prim (.bin .gtr) [.v 20, .c (.int .i64 3)] <|
              .ite (.v 21) (
               .jmp 0 false [.c (.bool true)]) (
               .prim (.fld 2) [.v 8] <|
               .prim .idx [.v 6, .v 22] <|
               .prim .get [.v 6, .v 23] <|
               .prim (.fld 3) [.v 8] <|
               .prim (.bin .neq) [.v 24, .v 25] <|
               .ite (.v 26) (
                .jmp 0 false [.c (.bool true)]) (
                .prim (.fld 1) [.v 8] <|
                .prim (.bin .eql) [.v 27, .c (.int .i64 1)] <|
                .ite (.v 28) (
                 .prim (.fld 4) [.v 8] <|
                 .prim (.fld 3) [.v 8] <|
                 .prim (.bin .neq) [.v 29, .v 30] <|
                 .jmp 0 false [.v 31]) (
                 .jmp 0 false [.c (.bool false)]))))))))) 1 <|
        .ite (.v 9) (
         .jmp 0 false [.c (.bool false), .v 6]) (
         .prim (.fld 2) [.v 8] <|
         .prim (.fld 4) [.v 8] <|
         .prim .idx [.v 6, .v 10] <|
         .prim .set [.v 6, .v 12, .v 11] <|
         .jmp 0 false [.c (.bool true), .v 13])) 2 <|
       .prim (.un .not) [.v 9] <|
       .jmp 0 false [.v 11, .v 10]) 2 <|
      .ite (.v 9) (
       .jmp 2 false [.v 5, .v 10]) (
       .prim (.bin .add) [.v 5, .c (.int .i64 1)] <|
       .jmp 0 true [.v 11, .v 10])) (
      .jmp 1 false [.v 6]))) 1 <|
   .jmp 0 false [.c (.int .i64 (-1)), .v 5]) 2 <|
  .prim (.bin .lss) [.v 4, .c (.int .i64 0)] <|
  .ite (.v 6) (
   .prim .len [.v 0] <|
   .jmp 0 false [.v 7]) (
   .jmp 0 false [.v 4]))
theorem a_trace_First0 : treeOf cx 12 45 = some A_trace_First0.erase := by kernel_rfl
theorem k_trace_First0 : FnOk cx 12 noC 45 F_trace_First0 := fn_ok (t := A_trace_First0) a_trace_First0 (fun _ => rfl) (ok_of [] (by kernel_rfl) .nil) (fun x => by kernel_rfl)

/-! What is asked for being nil is told apart here: without words that may be there is no memory. -/
def badWords (w : Int) : Bool := decide (w < 1) || decide (64 < w)
theorem mem_bad {K : Tree} {d0 : D} {w : Int} (hb : badWords w = true) :
    evL cx 12 noC (.sub (.sub (.prim (.bin .lss) [.v 1, .c (.int .i64 1)] (.ite (.v 2) (.jmp 0 false [.c (.bool true)]) (.prim (.bin .gtr) [.v 1, .c (.int .i64 64)] (.jmp 0 false [.v 3])))) 1 (.ite (.v 2) (.jmp 0 false [.c .nil]) (.prim (.rep (.int .u32 0) 4) [.v 1, .v 1] (.jmp 0 false [.v 3])))) 1 (.prim .isnil [.v 2] K)) [d0, .int .i64 w] = evL cx 12 noC K [d0, .int .i64 w, .nil, .bool true] := by
  unfold badWords at hb
  by_cases h1 : w < 1
  · simp [evL_sub, evL_prim, evL_ite, evL_jmp, gets, At.get, Prim.run, binD, binI, h1]
  · have h2 : 64 < w := by simpa [h1] using hb
    simp [evL_sub, evL_prim, evL_ite, evL_jmp, gets, At.get, Prim.run, binD, binI, h1, h2]
theorem first_bad {d0 : D} {w : Int} (hb : badWords w = true) : callL cx 12 noC 45 [d0, .int .i64 w] = some [.int .i64 0] := by
  rw [callL_eq cx 12 noC a_trace_First0 rfl]
  have h := fun K => (mem_bad (d0 := d0) (w := w) (K := .ite (.v 3) (.jmp 0 false [.c (.int .i64 0)]) K) hb).trans (show _ = some (.jmp 0 false [.int .i64 0]) by simp [evL_ite, evL_jmp, gets, At.get])
  exact (congrArg (fun r => match r with | some (Res.jmp _ _ rs) => some rs | _ => none) (h _))
noncomputable def trace_First (p0 : List Deed) (p1 : Int) : Option Int := if badWords p1 = true then some 0 else trace_First0 p0 p1
noncomputable def F_trace_First : FnT := ⟨[.sl tDeed, .int .i64], [.int .i64], fun x => trace_First x.1 x.2⟩
theorem k_trace_First : FnOk cx 12 noC 45 F_trace_First := fun ds x r hx hr => by
  obtain ⟨d0, m, rfl, h1, d1, rfl, h2⟩ := hx
  have h2 : d1 = .int .i64 x.2 := h2
  subst h2
  have hr : (if badWords x.2 = true then some 0 else trace_First0 x.1 x.2) = some r := hr
  by_cases hb : badWords x.2 = true
  · rw [if_pos hb] at hr
    injection hr with hr
    subst hr
    exact ⟨_, first_bad hb, _, rfl, rfl⟩
  · rw [if_neg hb] at hr
    exact k_trace_First0 _ x r ⟨d0, _, rfl, h1, _, rfl, rfl⟩ hr

/-! 47: backstay/trace.Sees -/
noncomputable def trace_Sees_L1 (x0 : List Deed) (x1 : Int) (s : (Int × (List (Int × Int)) × (List Int))) : Option ((Int × (List (Int × Int)) × (List Int)) ⊕ (List Int)) :=
  if decide (s.1 < x1) then
    (getO x0 s.1).bind fun v6 =>
    (appO 8 s.2.2 ([bif !(mhasT (Ty.dec (.int .i64)) s.2.1 (Deed.At v6)) then (-1 : Int) else mgetT (Ty.dec (.int .i64)) (0 : Int) s.2.1 (Deed.At v6)] : List Int)).bind fun v13 =>
    some (Sum.inl (w64 (s.1 + (1 : Int)), bif (decide ((Deed.Kind v6) = (2 : Int))) || (decide ((Deed.Kind v6) = (3 : Int))) then mputT (Ty.dec (.int .i64)) (Deed.At v6) s.1 s.2.1 else s.2.1, v13))
  else
    some (Sum.inr (s.2.2))
noncomputable def trace_Sees (p0 : List Deed) : Option (List Int) :=
  let v1 : Int := (List.length p0 : Int)
  (
    loopD (trace_Sees_L1 p0 v1) ((0 : Int), ([] : List (Int × Int)), ([] : List Int)) : Option (List Int)).bind fun v2 =>
  some (v2)
noncomputable def F_trace_Sees : FnT := ⟨[.sl tDeed], [.sl (.int .i64)], fun x => trace_Sees x⟩
noncomputable def A_trace_Sees : TA :=
 .prim .len [.v 0] <|
 .sub0 [.sl (.int .i64)] (
  .loop [.int .i64, .sl (.st [.int .i64, .int .i64]), .sl (.int .i64)] [.c (.int .i64 0), .c (.sl []), .c .nil] (
   .prim (.bin .lss) [.v 2, .v 1] <|
   .ite (.v 5) (
    .prim .get [.v 0, .v 2] <|
    .prim (.fld 2) [.v 6] <|
    .prim (.mget (.int .i64 0)) [.v 3, .v 7] <|
    .prim .mhas [.v 3, .v 7] <|
    .prim (.un .not) [.v 9] <|
    .subp [.int .i64] (
     .ite (.v 10) (
      .jmp 0 false [.c (.int .i64 (-1))]) (
      .jmp 0 false [.v 8])) 1 <|
    .mkL (.int .i64) [.v 11] <|
    .prim (.app 8) [.v 4, .v 12] <|
    .subp [.bool] (
     .prim (.fld 1) [.v 6] <|
     .prim (.bin .eql) [.v 14, .c (.int .i64 2)] <|
     .ite (.v 15) (
      .jmp 0 false [.c (.bool true)]) (
      .prim (.fld 1) [.v 6] <|
      .prim (.bin .eql) [.v 16, .c (.int .i64 3)] <|
      .jmp 0 false [.v 17])) 1 <|
    .subp [.sl (.st [.int .i64, .int .i64])] (
     .ite (.v 14) (
      .prim (.fld 2) [.v 6] <|
      .prim .mput [.v 3, .v 15, .v 2] <|
      .jmp 0 false [.v 16]) (
      .jmp 0 false [.v 3])) 1 <|
    .prim (.bin .add) [.v 2, .c (.int .i64 1)] <|
    .jmp 0 true [.v 16, .v 15, .v 13]) (
    .jmp 1 false [.v 4]))) 1 <|
 .jmp 0 false [.v 2]
theorem a_trace_Sees : treeOf cx 12 47 = some A_trace_Sees.erase := by kernel_rfl
theorem k_trace_Sees : FnOk cx 12 noC 47 F_trace_Sees := fn_ok (t := A_trace_Sees) a_trace_Sees (fun _ => rfl) (ok_of [] (by kernel_rfl) .nil) (fun x => by kernel_rfl)

/-! 48: backstay/backstayref21.Sees -/
noncomputable def r21_Sees_L1 (x0 : List Deed) (x1 : Int) (s : Int) : Option (Int ⊕ Unit ⊕ Int) :=
  if decide ((0 : Int) ≤ s) then
    (
      (getO x0 s).bind fun v5 =>
      if decide ((Deed.Kind v5) = (2 : Int)) then
        (getO x0 s).bind fun v8 =>
        (getO x0 x1).bind fun v10 =>
        some ((decide ((Deed.At v8) = (Deed.At v10))))
      else
        (getO x0 s).bind fun v8 =>
        if decide ((Deed.Kind v8) = (3 : Int)) then
          (getO x0 s).bind fun v11 =>
          (getO x0 x1).bind fun v13 =>
          some ((decide ((Deed.At v11) = (Deed.At v13))))
        else
          some (false) : Option Bool).bind fun v5 =>
    if v5 then
      some (Sum.inr (Sum.inr (s)))
    else
      some (Sum.inl (w64 (s - (1 : Int))))
  else
    some (Sum.inr (Sum.inl ()))
noncomputable def r21_Sees (p0 : List Deed) (p1 : Int) : Option Int :=
  orExit (
    loopD (r21_Sees_L1 p0 p1) (w64 (p1 - (1 : Int))) : Option (Unit ⊕ Int)) fun v3 =>
  some ((-1 : Int))
noncomputable def F_r21_Sees : FnT := ⟨[.sl tDeed, .int .i64], [.int .i64], fun x => r21_Sees x.1 x.2⟩
noncomputable def A_r21_Sees : TA :=
 .prim (.bin .sub) [.v 1, .c (.int .i64 1)] <|
 .sub1 [] (
  .loop [.int .i64] [.v 2] (
   .prim (.bin .geq) [.v 3, .c (.int .i64 0)] <|
   .ite (.v 4) (
    .sub0 [.bool] (
     .prim .get [.v 0, .v 3] <|
     .prim (.fld 1) [.v 5] <|
     .prim (.bin .eql) [.v 6, .c (.int .i64 2)] <|
     .ite (.v 7) (
      .prim .get [.v 0, .v 3] <|
      .prim (.fld 2) [.v 8] <|
      .prim .get [.v 0, .v 1] <|
      .prim (.fld 2) [.v 10] <|
      .prim (.bin .eql) [.v 9, .v 11] <|
      .jmp 0 false [.v 12]) (
      .prim .get [.v 0, .v 3] <|
      .prim (.fld 1) [.v 8] <|
      .prim (.bin .eql) [.v 9, .c (.int .i64 3)] <|
      .ite (.v 10) (
       .prim .get [.v 0, .v 3] <|
       .prim (.fld 2) [.v 11] <|
       .prim .get [.v 0, .v 1] <|
       .prim (.fld 2) [.v 13] <|
       .prim (.bin .eql) [.v 12, .v 14] <|
       .jmp 0 false [.v 15]) (
       .jmp 0 false [.c (.bool false)]))) 1 <|
    .ite (.v 5) (
     .jmp 2 false [.v 3]) (
     .prim (.bin .sub) [.v 3, .c (.int .i64 1)] <|
     .jmp 0 true [.v 6])) (
    .jmp 1 false []))) 0 <|
 .jmp 0 false [.c (.int .i64 (-1))]
theorem a_r21_Sees : treeOf cx 12 48 = some A_r21_Sees.erase := by kernel_rfl
theorem k_r21_Sees : FnOk cx 12 noC 48 F_r21_Sees := fn_ok (t := A_r21_Sees) a_r21_Sees (fun _ => rfl) (ok_of [] (by kernel_rfl) .nil) (fun x => by kernel_rfl)

/-! 49: backstay/backstayref21.Same -/
noncomputable def r21_Same_L1 (x0 : List Deed) (x1 : List Deed) (s : Int) : Option (Int ⊕ Unit ⊕ Bool) :=
  if decide (s < (List.length x0 : Int)) then
    (getO x0 s).bind fun v8 =>
    (getO x1 s).bind fun v9 =>
    if !(@decide (v8 = v9) (Ty.dec tDeed _ _)) then
      some (Sum.inr (Sum.inr (false)))
    else
      some (Sum.inl (w64 (s + (1 : Int))))
  else
    some (Sum.inr (Sum.inl ()))
noncomputable def r21_Same (p0 : List Deed) (p1 : List Deed) : Option Bool :=
  if !decide ((List.length p0 : Int) = (List.length p1 : Int)) then
    some (false)
  else
    orExit (
      loopD (r21_Same_L1 p0 p1) (0 : Int) : Option (Unit ⊕ Bool)) fun v5 =>
    some (true)
noncomputable def F_r21_Same : FnT := ⟨[.sl tDeed, .sl tDeed], [.bool], fun x => r21_Same x.1 x.2⟩
noncomputable def A_r21_Same : TA :=
 .prim .len [.v 0] <|
 .prim .len [.v 1] <|
 .prim (.bin .neq) [.v 2, .v 3] <|
 .ite (.v 4) (
  .jmp 0 false [.c (.bool false)]) (
  .sub1 [] (
   .loop [.int .i64] [.c (.int .i64 0)] (
    .prim .len [.v 0] <|
    .prim (.bin .lss) [.v 5, .v 6] <|
    .ite (.v 7) (
     .prim .get [.v 0, .v 5] <|
     .prim .get [.v 1, .v 5] <|
     .prim .eqv [.v 8, .v 9] <|
     .prim (.un .not) [.v 10] <|
     .ite (.v 11) (
      .jmp 2 false [.c (.bool false)]) (
      .prim (.bin .add) [.v 5, .c (.int .i64 1)] <|
      .jmp 0 true [.v 12])) (
     .jmp 1 false []))) 0 <|
  .jmp 0 false [.c (.bool true)])
theorem a_r21_Same : treeOf cx 12 49 = some A_r21_Same.erase := by kernel_rfl
theorem k_r21_Same : FnOk cx 12 noC 49 F_r21_Same := fn_ok (t := A_r21_Same) a_r21_Same (fun _ => rfl) (ok_of [] (by kernel_rfl) .nil) (fun x => by kernel_rfl)

/-! 50: backstay/trace.Of -/
noncomputable def trace_Of_L1 (x1 : Int) (s : (Int × Int × (List Deed))) : Option ((Int × Int × (List Deed)) ⊕ (Int × (List Deed))) :=
  if decide (s.2.1 < (List.length s.2.2 : Int)) then
    (idxO (List.length s.2.2 : Int) s.2.1).bind fun v11 =>
    (getO s.2.2 v11).bind fun v12 =>
    (
      if !(!decide ((Deed.Core v12) = x1)) then
        (idxO (List.length s.2.2 : Int) s.1).bind fun v15 =>
        (setO s.2.2 v15 v12).bind fun v16 =>
        some ((w64 (s.1 + (1 : Int)), v16))
      else
        some ((s.1, s.2.2)) : Option (Int × (List Deed))).bind fun v15 =>
    some (Sum.inl (v15.1, w64 (s.2.1 + (1 : Int)), v15.2))
  else
    some (Sum.inr ((s.1, s.2.2)))
noncomputable def trace_Of_L2 (x1 : Int) (x2 : List Deed) (x3 : Int) (s : Int) : Option (Int ⊕ Unit ⊕ Int) :=
  if decide (s < x3) then
    (idxO (List.length x2 : Int) s).bind fun v6 =>
    (getO x2 v6).bind fun v7 =>
    if !decide ((Deed.Core v7) = x1) then
      some (Sum.inr (Sum.inr (s)))
    else
      some (Sum.inl (w64 (s + (1 : Int))))
  else
    some (Sum.inr (Sum.inl ()))
noncomputable def trace_Of (p0 : List Deed) (p1 : Int) : Option (List Deed) :=
  (cloneO 32 p0).bind fun v2 =>
  (
    (
      let v3 : Int := (List.length v2 : Int)
      orExit (
        loopD (trace_Of_L2 p1 v2 v3) (0 : Int) : Option (Unit ⊕ Int)) fun v4 =>
      some ((-1 : Int)) : Option Int).bind fun v3 =>
    if decide (v3 = (-1 : Int)) then
      some (((List.length v2 : Int), v2))
    else
      (
        loopD (trace_Of_L1 p1) (v3, w64 (v3 + (1 : Int)), v2) : Option (Int × (List Deed))).bind fun v6 =>
      (rngO (List.length v6.2 : Int) v6.1 (List.length v6.2 : Int)).bind fun v9 =>
      (subO v6.2 v6.1 v9).bind fun v10 =>
      (cpyvO v6.2 v6.1 v9 (List.replicate (List.length v10) (Deed.mk (0 : Int) (0 : Int) (0 : Int) (0 : Int) (0 : Int)))).bind fun v12 =>
      (rngO (List.length v12 : Int) (0 : Int) v6.1).bind fun v14 =>
      some ((v14, v12)) : Option (Int × (List Deed))).bind fun v3 =>
  (subO v3.2 (0 : Int) v3.1).bind fun v5 =>
  some (v5)
noncomputable def F_trace_Of : FnT := ⟨[.sl tDeed, .int .i64], [.sl tDeed], fun x => trace_Of x.1 x.2⟩
noncomputable def A_trace_Of : TA :=
 .prim (.clone 32) [.v 0] <|
 .sub0 [.int .i64, .sl tDeed] (
  .sub0 [.int .i64] (
   .prim .len [.v 2] <|
   .sub1 [] (
    .loop [.int .i64] [.c (.int .i64 0)] (
     .prim (.bin .lss) [.v 4, .v 3] <|
     .ite (.v 5) (
      .prim .idx [.v 2, .v 4] <|
      .prim .get [.v 2, .v 6] <|
      .subp [.bool] (
       .prim (.fld 0) [.v 7] <|
       .prim (.bin .neq) [.v 8, .v 1] <|
       .jmp 0 false [.v 9]) 1 <|
      .ite (.v 8) (
       .jmp 2 false [.v 4]) (
       .prim (.bin .add) [.v 4, .c (.int .i64 1)] <|
       .jmp 0 true [.v 9])) (
      .jmp 1 false []))) 0 <|
   .jmp 0 false [.c (.int .i64 (-1))]) 1 <|
  .prim (.bin .eql) [.v 3, .c (.int .i64 (-1))] <|
  .ite (.v 4) (
   .prim .len [.v 2] <|
   .jmp 0 false [.v 5, .v 2]) (
   .prim (.bin .add) [.v 3, .c (.int .i64 1)] <|
   .sub0 [.int .i64, .sl tDeed] (
    .loop [.int .i64, .int .i64, .sl tDeed] [.v 3, .v 5, .v 2] (
     .prim .len [.v 8] <|
     .prim (.bin .lss) [.v 7, .v 9] <|
     .ite (.v 10) (
      .prim .idx [.v 8, .v 7] <|
      .prim .get [.v 8, .v 11] <|
      .subp [.bool] (
       .prim (.fld 0) [.v 12] <|
       .prim (.bin .neq) [.v 13, .v 1] <|
       .jmp 0 false [.v 14]) 1 <|
      .prim (.un .not) [.v 13] <|
      .sub0 [.int .i64, .sl tDeed] (
       .ite (.v 14) (
        .prim .idx [.v 8, .v 6] <|
        .prim .set [.v 8, .v 15, .v 12] <|
        .prim (.bin .add) [.v 6, .c (.int .i64 1)] <|
        .jmp 0 false [.v 17, .v 16]) (
        .jmp 0 false [.v 6, .v 8])) 2 <|
      .prim (.bin .add) [.v 7, .c (.int .i64 1)] <|
      .jmp 0 true [.v 15, .v 17, .v 16]) (
      .jmp 1 false [.v 6, .v 8]))) 2 <|
   .prim .len [.v 7] <|
   .prim .rng [.v 7, .v 6, .v 8] <|
   .prim .sub [.v 7, .v 6, .v 9] <|
   .prim (.clr (.agg [(.int .i64 0), (.int .i64 0), (.int .i64 0), (.int .u32 0), (.int .u32 0)])) [.v 10] <|
   .prim .cpyv [.v 7, .v 6, .v 9, .v 11] <|
   .prim .len [.v 12] <|
   .prim .rng [.v 12, .c (.int .i64 0), .v 6] <|
   .jmp 0 false [.v 14, .v 12])) 2 <|
 .prim .sub [.v 4, .c (.int .i64 0), .v 3] <|
 .jmp 0 false [.v 5]
theorem a_trace_Of : treeOf cx 12 50 = some A_trace_Of.erase := by kernel_rfl
theorem k_trace_Of : FnOk cx 12 noC 50 F_trace_Of := fn_ok (t := A_trace_Of) a_trace_Of (fun _ => rfl) (ok_of [] (by kernel_rfl) .nil) (fun x => by kernel_rfl)

/-! 51: backstay/backstayref21.Of -/
noncomputable def r21_Of_L1 (x0 : List Deed) (x1 : Int) (s : (Int × (List Deed))) : Option ((Int × (List Deed)) ⊕ (List Deed)) :=
  if decide (s.1 < (List.length x0 : Int)) then
    (getO x0 s.1).bind fun v6 =>
    (
      if decide ((Deed.Core v6) = x1) then
        (getO x0 s.1).bind fun v9 =>
        (appO 32 s.2 ([v9] : List Deed)).bind fun v11 =>
        some (v11)
      else
        some (s.2) : Option (List Deed)).bind fun v9 =>
    some (Sum.inl (w64 (s.1 + (1 : Int)), v9))
  else
    some (Sum.inr (s.2))
noncomputable def r21_Of (p0 : List Deed) (p1 : Int) : Option (List Deed) :=
  (
    loopD (r21_Of_L1 p0 p1) ((0 : Int), ([] : List Deed)) : Option (List Deed)).bind fun v2 =>
  some (v2)
noncomputable def F_r21_Of : FnT := ⟨[.sl tDeed, .int .i64], [.sl tDeed], fun x => r21_Of x.1 x.2⟩
noncomputable def A_r21_Of : TA :=
 .sub0 [.sl tDeed] (
  .loop [.int .i64, .sl tDeed] [.c (.int .i64 0), .c .nil] (
   .prim .len [.v 0] <|
   .prim (.bin .lss) [.v 2, .v 4] <|
   .ite (.v 5) (
    .prim .get [.v 0, .v 2] <|
    .prim (.fld 0) [.v 6] <|
    .prim (.bin .eql) [.v 7, .v 1] <|
    .sub0 [.sl tDeed] (
     .ite (.v 8) (
      .prim .get [.v 0, .v 2] <|
      .mkL tDeed [.v 9] <|
      .prim (.app 32) [.v 3, .v 10] <|
      .jmp 0 false [.v 11]) (
      .jmp 0 false [.v 3])) 1 <|
    .prim (.bin .add) [.v 2, .c (.int .i64 1)] <|
    .jmp 0 true [.v 10, .v 9]) (
    .jmp 1 false [.v 3]))) 1 <|
 .jmp 0 false [.v 2]
theorem a_r21_Of : treeOf cx 12 51 = some A_r21_Of.erase := by kernel_rfl
theorem k_r21_Of : FnOk cx 12 noC 51 F_r21_Of := fn_ok (t := A_r21_Of) a_r21_Of (fun _ => rfl) (ok_of [] (by kernel_rfl) .nil) (fun x => by kernel_rfl)

/-! 52: backstay/trace.Mix -/
noncomputable def trace_Mix_L1 (x7 : List (List Deed)) (x12 : Int) (s : (Int × Int × (List Deed))) : Option ((Int × Int × (List Deed)) ⊕ (Int × (List Deed))) :=
  if decide (s.2.1 < x12) then
    (idxO (List.length x7 : Int) s.2.1).bind fun v17 =>
    (getO x7 v17).bind fun v18 =>
    (appvO 32 s.2.2 s.1 v18).bind fun v19 =>
    some (Sum.inl (s.1 + (List.length v18 : Int), w64 (s.2.1 + (1 : Int)), v19))
  else
    some (Sum.inr ((s.1, s.2.2)))
noncomputable def trace_Mix_L2 (x7 : List (List Deed)) (x8 : Int) (s : (Int × Int)) : Option ((Int × Int) ⊕ Int) :=
  if decide (s.2 < x8) then
    (idxO (List.length x7 : Int) s.2).bind fun v12 =>
    (getO x7 v12).bind fun v13 =>
    let v15 : Int := w64 (s.1 + (List.length v13 : Int))
    if decide (v15 < (0 : Int)) then
      none
    else
      some (Sum.inl (v15, w64 (s.2 + (1 : Int))))
  else
    some (Sum.inr (s.1))
noncomputable def trace_Mix_L3 (x2 : List Bool) (x3 : Int) (s : (Int × (List Deed) × (List Deed) × (List Deed))) : Option ((Int × (List Deed) × (List Deed) × (List Deed)) ⊕ ((List Deed) × (List Deed) × (List Deed))) :=
  if decide (s.1 < x3) then
    (
      (getO x2 s.1).bind fun v9 =>
      if v9 then
        (
          if decide ((0 : Int) < (List.length s.2.2.1 : Int)) then
            (getO s.2.2.1 (0 : Int)).bind fun v12 =>
            (appO 32 s.2.2.2 ([v12] : List Deed)).bind fun v14 =>
            (subO s.2.2.1 (1 : Int) (List.length s.2.2.1 : Int)).bind fun v16 =>
            some ((v16, v14))
          else
            some ((s.2.2.1, s.2.2.2)) : Option ((List Deed) × (List Deed))).bind fun v12 =>
        some ((s.2.1, v12.1, v12.2))
      else
        (
          if decide ((0 : Int) < (List.length s.2.1 : Int)) then
            (getO s.2.1 (0 : Int)).bind fun v12 =>
            (appO 32 s.2.2.2 ([v12] : List Deed)).bind fun v14 =>
            (subO s.2.1 (1 : Int) (List.length s.2.1 : Int)).bind fun v16 =>
            some ((v16, v14))
          else
            some ((s.2.1, s.2.2.2)) : Option ((List Deed) × (List Deed))).bind fun v12 =>
        some ((v12.1, s.2.2.1, v12.2)) : Option ((List Deed) × (List Deed) × (List Deed))).bind fun v9 =>
    some (Sum.inl (w64 (s.1 + (1 : Int)), v9.1, v9.2.1, v9.2.2))
  else
    some (Sum.inr ((s.2.1, s.2.2.1, s.2.2.2)))
noncomputable def trace_Mix (p0 : List Deed) (p1 : List Deed) (p2 : List Bool) : Option (List Deed) :=
  let v3 : Int := (List.length p2 : Int)
  (
    loopD (trace_Mix_L3 p2 v3) ((0 : Int), p0, p1, ([] : List Deed)) : Option ((List Deed) × (List Deed) × (List Deed))).bind fun v4 =>
  let v7 : List (List Deed) := ([v4.2.2, v4.1, v4.2.1] : List (List Deed))
  (
    let v8 : Int := (List.length v7 : Int)
    (
      loopD (trace_Mix_L2 v7 v8) ((0 : Int), (0 : Int)) : Option Int).bind fun v9 =>
    (
      if decide (v9 < (0 : Int)) then
        none
      else
        let v11 : Int := w64 (v9 - (0 : Int))
        (
          if decide ((0 : Int) < v11) then
            (zextO (Deed.mk (0 : Int) (0 : Int) (0 : Int) (0 : Int) (0 : Int)) 32 ([] : List Deed) v11).bind fun v13 =>
            (rngO (List.length v13 : Int) (0 : Int) (0 : Int)).bind fun v15 =>
            some ((v15, v13))
          else
            some (((0 : Int), ([] : List Deed))) : Option (Int × (List Deed))).bind fun v13 =>
        some ((v13.1, v13.2)) : Option (Int × (List Deed))).bind fun v10 =>
    let v12 : Int := (List.length v7 : Int)
    (
      loopD (trace_Mix_L1 v7 v12) (v10.1, (0 : Int), v10.2) : Option (Int × (List Deed))).bind fun v13 =>
    some ((v13.1, v13.2)) : Option (Int × (List Deed))).bind fun v8 =>
  (subO v8.2 (0 : Int) v8.1).bind fun v10 =>
  some (v10)
noncomputable def F_trace_Mix : FnT := ⟨[.sl tDeed, .sl tDeed, .sl .bool], [.sl tDeed], fun x => trace_Mix x.1 x.2.1 x.2.2⟩
noncomputable def A_trace_Mix : TA :=
 .prim .len [.v 2] <|
 .sub0 [.sl tDeed, .sl tDeed, .sl tDeed] (
  .loop [.int .i64, .sl tDeed, .sl tDeed, .sl tDeed] [.c (.int .i64 0), .v 0, .v 1, .c .nil] (
   .prim (.bin .lss) [.v 4, .v 3] <|
   .ite (.v 8) (
    .sub0 [.sl tDeed, .sl tDeed, .sl tDeed] (
     .prim .get [.v 2, .v 4] <|
     .ite (.v 9) (
      .prim .len [.v 6] <|
      .prim (.bin .gtr) [.v 10, .c (.int .i64 0)] <|
      .sub0 [.sl tDeed, .sl tDeed] (
       .ite (.v 11) (
        .prim .get [.v 6, .c (.int .i64 0)] <|
        .mkL tDeed [.v 12] <|
        .prim (.app 32) [.v 7, .v 13] <|
        .prim .len [.v 6] <|
        .prim .sub [.v 6, .c (.int .i64 1), .v 15] <|
        .jmp 0 false [.v 16, .v 14]) (
        .jmp 0 false [.v 6, .v 7])) 2 <|
      .jmp 0 false [.v 5, .v 12, .v 13]) (
      .prim .len [.v 5] <|
      .prim (.bin .gtr) [.v 10, .c (.int .i64 0)] <|
      .sub0 [.sl tDeed, .sl tDeed] (
       .ite (.v 11) (
        .prim .get [.v 5, .c (.int .i64 0)] <|
        .mkL tDeed [.v 12] <|
        .prim (.app 32) [.v 7, .v 13] <|
        .prim .len [.v 5] <|
        .prim .sub [.v 5, .c (.int .i64 1), .v 15] <|
        .jmp 0 false [.v 16, .v 14]) (
        .jmp 0 false [.v 5, .v 7])) 2 <|
      .jmp 0 false [.v 12, .v 6, .v 13])) 3 <|
    .prim (.bin .add) [.v 4, .c (.int .i64 1)] <|
    .jmp 0 true [.v 12, .v 9, .v 10, .v 11]) (
    .jmp 1 false [.v 5, .v 6, .v 7]))) 3 <|
 .mkL (.sl tDeed) [.v 6, .v 4, .v 5] <|
 .sub0 [.int .i64, .sl tDeed] (
  .prim .len [.v 7] <|
  .sub0 [.int .i64] (
   .loop [.int .i64, .int .i64] [.c (.int .i64 0), .c (.int .i64 0)] (
    .prim (.bin .lss) [.v 10, .v 8] <|
    .ite (.v 11) (
     .prim .idx [.v 7, .v 10] <|
     .prim .get [.v 7, .v 12] <|
     .prim .len [.v 13] <|
     .prim (.bin .add) [.v 9, .v 14] <|
     .prim (.bin .lss) [.v 15, .c (.int .i64 0)] <|
     .ite (.v 16) (
      .fail 153) (
      .prim (.bin .add) [.v 10, .c (.int .i64 1)] <|
      .jmp 0 true [.v 15, .v 17])) (
     .jmp 1 false [.v 9]))) 1 <|
  .sub0 [.int .i64, .sl tDeed] (
   .prim (.bin .lss) [.v 9, .c (.int .i64 0)] <|
   .ite (.v 10) (
    .fail 153) (
    .prim (.bin .sub) [.v 9, .c (.int .i64 0)] <|
    .prim (.bin .gtr) [.v 11, .c (.int .i64 0)] <|
    .sub0 [.int .i64, .sl tDeed] (
     .ite (.v 12) (
      .primH (.zext (.agg [(.int .i64 0), (.int .i64 0), (.int .i64 0), (.int .u32 0), (.int .u32 0)]) 32) (.sl tDeed) [.c .nil, .v 11] <|
      .prim .len [.v 13] <|
      .prim .rng [.v 13, .c (.int .i64 0), .c (.int .i64 0)] <|
      .jmp 0 false [.v 15, .v 13]) (
      .jmp 0 false [.c (.int .i64 0), .c .nil])) 2 <|
    .jmp 0 false [.v 13, .v 14])) 2 <|
  .prim .len [.v 7] <|
  .sub0 [.int .i64, .sl tDeed] (
   .loop [.int .i64, .int .i64, .sl tDeed] [.v 10, .c (.int .i64 0), .v 11] (
    .prim (.bin .lss) [.v 14, .v 12] <|
    .ite (.v 16) (
     .prim .idx [.v 7, .v 14] <|
     .prim .get [.v 7, .v 17] <|
     .prim (.appv 32) [.v 15, .v 13, .v 18] <|
     .prim .len [.v 18] <|
     .prim .vadd [.v 13, .v 20] <|
     .prim (.bin .add) [.v 14, .c (.int .i64 1)] <|
     .jmp 0 true [.v 21, .v 22, .v 19]) (
     .jmp 1 false [.v 13, .v 15]))) 2 <|
  .jmp 0 false [.v 13, .v 14]) 2 <|
 .prim .sub [.v 9, .c (.int .i64 0), .v 8] <|
 .jmp 0 false [.v 10]
theorem a_trace_Mix : treeOf cx 12 52 = some A_trace_Mix.erase := by kernel_rfl
theorem k_trace_Mix : FnOk cx 12 noC 52 F_trace_Mix := fn_ok (t := A_trace_Mix) a_trace_Mix (fun _ => rfl) (ok_of [] (by kernel_rfl) .nil) (fun x => by kernel_rfl)

/-! 53: backstay/backstayref21.Mix -/
noncomputable def r21_Mix_L1 (x0 : List Deed) (x1 : List Deed) (x2 : List Bool) (s : (Int × Int × Int × (List Deed))) : Option ((Int × Int × Int × (List Deed)) ⊕ (Int × Int × (List Deed))) :=
  if decide (s.2.2.1 < (List.length x2 : Int)) then
    (
      (getO x2 s.2.2.1).bind fun v9 =>
      if v9 then
        some ((decide (s.2.1 < (List.length x1 : Int))))
      else
        some (false) : Option Bool).bind fun v9 =>
    (
      if v9 then
        (getO x1 s.2.1).bind fun v10 =>
        (appO 32 s.2.2.2 ([v10] : List Deed)).bind fun v12 =>
        some ((w64 (s.2.1 + (1 : Int)), v12))
      else
        some ((s.2.1, s.2.2.2)) : Option (Int × (List Deed))).bind fun v10 =>
    (
      (getO x2 s.2.2.1).bind fun v12 =>
      if !v12 then
        some ((decide (s.1 < (List.length x0 : Int))))
      else
        some (false) : Option Bool).bind fun v12 =>
    (
      if v12 then
        (getO x0 s.1).bind fun v13 =>
        (appO 32 v10.2 ([v13] : List Deed)).bind fun v15 =>
        some ((w64 (s.1 + (1 : Int)), v15))
      else
        some ((s.1, v10.2)) : Option (Int × (List Deed))).bind fun v13 =>
    some (Sum.inl (v13.1, v10.1, w64 (s.2.2.1 + (1 : Int)), v13.2))
  else
    some (Sum.inr ((s.1, s.2.1, s.2.2.2)))
noncomputable def r21_Mix (p0 : List Deed) (p1 : List Deed) (p2 : List Bool) : Option (List Deed) :=
  (
    loopD (r21_Mix_L1 p0 p1 p2) ((0 : Int), (0 : Int), (0 : Int), ([] : List Deed)) : Option (Int × Int × (List Deed))).bind fun v3 =>
  (subO p0 v3.1 (List.length p0 : Int)).bind fun v7 =>
  (appO 32 v3.2.2 v7).bind fun v8 =>
  (subO p1 v3.2.1 (List.length p1 : Int)).bind fun v10 =>
  (appO 32 v8 v10).bind fun v11 =>
  some (v11)
noncomputable def F_r21_Mix : FnT := ⟨[.sl tDeed, .sl tDeed, .sl .bool], [.sl tDeed], fun x => r21_Mix x.1 x.2.1 x.2.2⟩
noncomputable def A_r21_Mix : TA :=
 .sub0 [.int .i64, .int .i64, .sl tDeed] (
  .loop [.int .i64, .int .i64, .int .i64, .sl tDeed] [.c (.int .i64 0), .c (.int .i64 0), .c (.int .i64 0), .c .nil] (
   .prim .len [.v 2] <|
   .prim (.bin .lss) [.v 5, .v 7] <|
   .ite (.v 8) (
    .sub0 [.bool] (
     .prim .get [.v 2, .v 5] <|
     .ite (.v 9) (
      .prim .len [.v 1] <|
      .prim (.bin .lss) [.v 4, .v 10] <|
      .jmp 0 false [.v 11]) (
      .jmp 0 false [.c (.bool false)])) 1 <|
    .sub0 [.int .i64, .sl tDeed] (
     .ite (.v 9) (
      .prim .get [.v 1, .v 4] <|
      .mkL tDeed [.v 10] <|
      .prim (.app 32) [.v 6, .v 11] <|
      .prim (.bin .add) [.v 4, .c (.int .i64 1)] <|
      .jmp 0 false [.v 13, .v 12]) (
      .jmp 0 false [.v 4, .v 6])) 2 <|
    .sub0 [.bool] (
     .prim .get [.v 2, .v 5] <|
     .prim (.un .not) [.v 12] <|
     .ite (.v 13) (
      .prim .len [.v 0] <|
      .prim (.bin .lss) [.v 3, .v 14] <|
      .jmp 0 false [.v 15]) (
      .jmp 0 false [.c (.bool false)])) 1 <|
    .sub0 [.int .i64, .sl tDeed] (
     .ite (.v 12) (
      .prim .get [.v 0, .v 3] <|
      .mkL tDeed [.v 13] <|
      .prim (.app 32) [.v 11, .v 14] <|
      .prim (.bin .add) [.v 3, .c (.int .i64 1)] <|
      .jmp 0 false [.v 16, .v 15]) (
      .jmp 0 false [.v 3, .v 11])) 2 <|
    .prim (.bin .add) [.v 5, .c (.int .i64 1)] <|
    .jmp 0 true [.v 13, .v 10, .v 15, .v 14]) (
    .jmp 1 false [.v 3, .v 4, .v 6]))) 3 <|
 .prim .len [.v 0] <|
 .prim .sub [.v 0, .v 3, .v 6] <|
 .prim (.app 32) [.v 5, .v 7] <|
 .prim .len [.v 1] <|
 .prim .sub [.v 1, .v 4, .v 9] <|
 .prim (.app 32) [.v 8, .v 10] <|
 .jmp 0 false [.v 11]
theorem a_r21_Mix : treeOf cx 12 53 = some A_r21_Mix.erase := by kernel_rfl
theorem k_r21_Mix : FnOk cx 12 noC 53 F_r21_Mix := fn_ok (t := A_r21_Mix) a_r21_Mix (fun _ => rfl) (ok_of [] (by kernel_rfl) .nil) (fun x => by kernel_rfl)

/-! 46: backstay/trace.Holds -/
noncomputable def trace_Holds0 (p0 : List Deed) (p1 : Int) : Option Bool :=
  (
    (
      if (decide (p1 < (1 : Int))) || (decide ((64 : Int) < p1)) then
        some (([] : List Int))
      else
        (repO (0 : Int) 4 p1 p1).bind fun v3 =>
        some (v3) : Option (List Int)).bind fun v2 =>
    (isnilO v2).bind fun v3 =>
    if !v3 then
      (trace_First p0 p1).bind fun v5 =>
      some ((decide (v5 = (List.length p0 : Int))))
    else
      some (false) : Option Bool).bind fun v2 =>
  some (v2)
noncomputable def F_trace_Holds0 : FnT := ⟨[.sl tDeed, .int .i64], [.bool], fun x => trace_Holds0 x.1 x.2⟩
noncomputable def A_trace_Holds0 : TA :=
 .sub0 [.bool] (
  .sub0 [.sl (.int .u32)] (
   .subp [.bool] (
    .prim (.bin .lss) [.v 1, .c (.int .i64 1)] <|
    .ite (.v 2) (
     .jmp 0 false [.c (.bool true)]) (
     .prim (.bin .gtr) [.v 1, .c (.int .i64 64)] <|
     .jmp 0 false [.v 3])) 1 <|
   .ite (.v 2) (
    .jmp 0 false [.c .nil]) (
    .primH (.rep (.int .u32 0) 4) (.sl (.int .u32)) [.v 1, .v 1] <|
    .jmp 0 false [.v 3])) 1 <|
  .prim .isnil [.v 2] <|
  .prim (.un .not) [.v 3] <|
  .ite (.v 4) (
   .call 45 F_trace_First [.v 0, .v 1] 1 <|
   .prim .len [.v 0] <|
   .prim (.bin .eql) [.v 5, .v 6] <|
   .jmp 0 false [.v 7]) (
   .jmp 0 false [.c (.bool false)])) 1 <|
 .jmp 0 false [.v 2]
theorem a_trace_Holds0 : treeOf cx 12 46 = some A_trace_Holds0.erase := by kernel_rfl
theorem k_trace_Holds0 : FnOk cx 12 noC 46 F_trace_Holds0 := fn_ok (t := A_trace_Holds0) a_trace_Holds0 (fun _ => rfl) (ok_of [(45, F_trace_First)] (by kernel_rfl) (.cons k_trace_First .nil)) (fun x => by kernel_rfl)

theorem holds_bad {d0 : D} {w : Int} (hb : badWords w = true) : callL cx 12 noC 46 [d0, .int .i64 w] = some [.bool false] := by
  rw [callL_eq cx 12 noC a_trace_Holds0 rfl]
  have : ∀ K, evL cx 12 noC (.sub (.sub (.sub (.prim (.bin .lss) [.v 1, .c (.int .i64 1)] (.ite (.v 2) (.jmp 0 false [.c (.bool true)]) (.prim (.bin .gtr) [.v 1, .c (.int .i64 64)] (.jmp 0 false [.v 3])))) 1 (.ite (.v 2) (.jmp 0 false [.c .nil]) (.prim (.rep (.int .u32 0) 4) [.v 1, .v 1] (.jmp 0 false [.v 3])))) 1 (.prim .isnil [.v 2] (.prim (.un .not) [.v 3] (.ite (.v 4) K (.jmp 0 false [.c (.bool false)]))))) 1 (.jmp 0 false [.v 2])) [d0, .int .i64 w] = some (.jmp 0 false [.bool false]) := fun K => by
    rw [evL_sub, mem_bad hb]
    simp [evL_prim, evL_ite, evL_jmp, gets, At.get, Prim.run, unD]
  exact congrArg (fun r => match r with | some (Res.jmp _ _ rs) => some rs | _ => none) (this _)
noncomputable def trace_Holds (p0 : List Deed) (p1 : Int) : Option Bool := if badWords p1 = true then some false else trace_Holds0 p0 p1
noncomputable def F_trace_Holds : FnT := ⟨[.sl tDeed, .int .i64], [.bool], fun x => trace_Holds x.1 x.2⟩
theorem k_trace_Holds : FnOk cx 12 noC 46 F_trace_Holds := fun ds x r hx hr => by
  obtain ⟨d0, m, rfl, h1, d1, rfl, h2⟩ := hx
  have h2 : d1 = .int .i64 x.2 := h2
  subst h2
  have hr : (if badWords x.2 = true then some false else trace_Holds0 x.1 x.2) = some r := hr
  by_cases hb : badWords x.2 = true
  · rw [if_pos hb] at hr
    injection hr with hr
    subst hr
    exact ⟨_, holds_bad hb, _, rfl, rfl⟩
  · rw [if_neg hb] at hr
    exact k_trace_Holds0 _ x r ⟨d0, _, rfl, h1, _, rfl, rfl⟩ hr

/-! 80: backstay/backstayref21.holds -/
noncomputable def r21_holds (p0 : List Deed) (p1 : Int) (p2 : Int) : Option Bool :=
  (getO p0 p1).bind fun v3 =>
  (r21_Sees p0 p1).bind fun v4 =>
  (
    if decide ((0 : Int) ≤ v4) then
      (getO p0 v4).bind fun v6 =>
      some ((Deed.Val v6))
    else
      some ((0 : Int)) : Option Int).bind fun v6 =>
  some (((decide ((0 : Int) ≤ (Deed.Core v3))) && ((decide ((Deed.Core v3) ≤ (3 : Int))) && ((decide ((0 : Int) ≤ (Deed.At v3))) && ((decide ((Deed.At v3) < p2)) && ((decide ((1 : Int) ≤ (Deed.Kind v3))) && ((decide ((Deed.Kind v3) ≤ (3 : Int))) && ((decide ((Deed.Was v3) = v6)) && ((!decide ((Deed.Kind v3) = (1 : Int))) || (decide ((Deed.Val v3) = v6)))))))))))
noncomputable def F_r21_holds : FnT := ⟨[.sl tDeed, .int .i64, .int .i64], [.bool], fun x => r21_holds x.1 x.2.1 x.2.2⟩
noncomputable def A_r21_holds : TA :=
 .prim .get [.v 0, .v 1] <|
 .call 48 F_r21_Sees [.v 0, .v 1] 1 <|
 .prim (.bin .geq) [.v 4, .c (.int .i64 0)] <|
 .sub0 [.int .u32] (
  .ite (.v 5) (
   .prim .get [.v 0, .v 4] <|
   .prim (.fld 4) [.v 6] <|
   .jmp 0 false [.v 7]) (
   .jmp 0 false [.c (.int .u32 0)])) 1 <|
 .subp [.bool] (
  .prim (.fld 0) [.v 3] <|
  .prim (.bin .geq) [.v 7, .c (.int .i64 0)] <|
  .ite (.v 8) (
   .prim (.fld 0) [.v 3] <|
   .prim (.bin .leq) [.v 9, .c (.int .i64 3)] <|
   .ite (.v 10) (
    .prim (.fld 2) [.v 3] <|
    .prim (.bin .geq) [.v 11, .c (.int .i64 0)] <|
    .ite (.v 12) (
     .prim (.fld 2) [.v 3] <|
     .prim (.bin .lss) [.v 13, .v 2] <|
     .ite (.v 14) (
      .prim (.fld 1) [.v 3] <|
      .prim (.bin .geq) [.v 15, .c (.int .i64 1)] <|
      .ite (.v 16) (
       .prim (.fld 1) [.v 3] <|
       .prim (.bin .leq) [.v 17, .c (.int .i64 3)] <|
       .ite (.v 18) (
        .prim (.fld 3) [.v 3] <|
        .prim (.bin .eql) [.v 19, .v 6] <|
        .ite (.v 20) (
         .prim (.fld 1) [.v 3] <|
         .prim (.bin .neq) [.v 21, .c (.int .i64 1)] <|
         .ite (.v 22) (
          .jmp 0 false [.c (.bool true)]) (
          .prim (.fld 4) [.v 3] <|
          .prim (.bin .eql) [.v 23, .v 6] <|
          .jmp 0 false [.v 24])) (
         .jmp 0 false [.c (.bool false)])) (
        .jmp 0 false [.c (.bool false)])) (
       .jmp 0 false [.c (.bool false)])) (
      .jmp 0 false [.c (.bool false)])) (
     .jmp 0 false [.c (.bool false)])) (
    .jmp 0 false [.c (.bool false)])) (
   .jmp 0 false [.c (.bool false)])) 1 <|
 .jmp 0 false [.v 7]
theorem a_r21_holds : treeOf cx 12 80 = some A_r21_holds.erase := by kernel_rfl
theorem k_r21_holds : FnOk cx 12 noC 80 F_r21_holds := fn_ok (t := A_r21_holds) a_r21_holds (fun _ => rfl) (ok_of [(48, F_r21_Sees)] (by kernel_rfl) (.cons k_r21_Sees .nil)) (fun x => by kernel_rfl)

/-! 41: backstay/trace.After -/
noncomputable def trace_After_L1 (x0 : List Deed) (x5 : Int) (s : (Int × (List Int))) : Option ((Int × (List Int)) ⊕ (List Int)) :=
  if decide (s.1 < x5) then
    (getO x0 s.1).bind fun v9 =>
    (
      (
        if decide ((Deed.Core v9) < (0 : Int)) then
          some (true)
        else
          if decide ((4 : Int) ≤ (Deed.Core v9)) then
            some (true)
          else
            if decide ((Deed.At v9) < (0 : Int)) then
              some (true)
            else
              if decide ((List.length s.2 : Int) ≤ (Deed.At v9)) then
                some (true)
              else
                if decide ((Deed.Kind v9) < (1 : Int)) then
                  some (true)
                else
                  if decide ((3 : Int) < (Deed.Kind v9)) then
                    some (true)
                  else
                    (idxO (List.length s.2 : Int) (Deed.At v9)).bind fun v24 =>
                    (getO s.2 v24).bind fun v25 =>
                    if !decide (v25 = (Deed.Was v9)) then
                      some (true)
                    else
                      if decide ((Deed.Kind v9) = (1 : Int)) then
                        some ((!decide ((Deed.Val v9) = (Deed.Was v9))))
                      else
                        some (false) : Option Bool).bind fun v10 =>
      if v10 then
        some (s.2)
      else
        (idxO (List.length s.2 : Int) (Deed.At v9)).bind fun v13 =>
        (setO s.2 v13 (Deed.Val v9)).bind fun v14 =>
        some (v14) : Option (List Int)).bind fun v10 =>
    some (Sum.inl (w64 (s.1 + (1 : Int)), v10))
  else
    some (Sum.inr (s.2))
noncomputable def trace_After (p0 : List Deed) (p1 : Int) : Option ((List Int) × Int) :=
  (trace_Holds p0 p1).bind fun v2 =>
  if !v2 then
    some ((([] : List Int), (1 : Int)))
  else
    (
      if (decide (p1 < (1 : Int))) || (decide ((64 : Int) < p1)) then
        some (([] : List Int))
      else
        (repO (0 : Int) 4 p1 p1).bind fun v5 =>
        some (v5) : Option (List Int)).bind fun v4 =>
    let v5 : Int := (List.length p0 : Int)
    (
      loopD (trace_After_L1 p0 v5) ((0 : Int), v4) : Option (List Int)).bind fun v6 =>
    some ((v6, (0 : Int)))
noncomputable def F_trace_After : FnT := ⟨[.sl tDeed, .int .i64], [.sl (.int .u32), .int .i64], fun x => trace_After x.1 x.2⟩
noncomputable def A_trace_After : TA :=
 .call 46 F_trace_Holds [.v 0, .v 1] 1 <|
 .prim (.un .not) [.v 2] <|
 .ite (.v 3) (
  .jmp 0 false [.c .nil, .c (.int .i64 1)]) (
  .sub0 [.sl (.int .u32)] (
   .subp [.bool] (
    .prim (.bin .lss) [.v 1, .c (.int .i64 1)] <|
    .ite (.v 4) (
     .jmp 0 false [.c (.bool true)]) (
     .prim (.bin .gtr) [.v 1, .c (.int .i64 64)] <|
     .jmp 0 false [.v 5])) 1 <|
   .ite (.v 4) (
    .jmp 0 false [.c .nil]) (
    .primH (.rep (.int .u32 0) 4) (.sl (.int .u32)) [.v 1, .v 1] <|
    .jmp 0 false [.v 5])) 1 <|
  .prim .len [.v 0] <|
  .sub0 [.sl (.int .u32)] (
   .loop [.int .i64, .sl (.int .u32)] [.c (.int .i64 0), .v 4] (
    .prim (.bin .lss) [.v 6, .v 5] <|
    .ite (.v 8) (
     .prim .get [.v 0, .v 6] <|
     .sub0 [.no, .sl (.int .u32)] (
      .sub0 [.bool] (
       .prim (.fld 0) [.v 9] <|
       .prim (.bin .lss) [.v 10, .c (.int .i64 0)] <|
       .ite (.v 11) (
        .jmp 0 false [.c (.bool true)]) (
        .prim (.fld 0) [.v 9] <|
        .prim (.bin .geq) [.v 12, .c (.int .i64 4)] <|
        .ite (.v 13) (
         .jmp 0 false [.c (.bool true)]) (
         .prim (.fld 2) [.v 9] <|
         .prim (.bin .lss) [.v 14, .c (.int .i64 0)] <|
         .ite (.v 15) (
          .jmp 0 false [.c (.bool true)]) (
          .prim (.fld 2) [.v 9] <|
          .prim .len [.v 7] <|
          .prim (.bin .geq) [.v 16, .v 17] <|
          .ite (.v 18) (
           .jmp 0 false [.c (.bool true)]) (
           .prim (.fld 1) [.v 9] <|
           .prim (.bin .lss) [.v 19, .c (.int .i64 1)] <|
           .ite (.v 20) (
            .jmp 0 false [.c (.bool true)]) (
            .prim (.fld 1) [.v 9] <|
            .prim (.bin .gtr) [.v 21, .c (.int .i64 3)] <|
            .ite (.v 22) (
             .jmp 0 false [.c (.bool true)]) (
             .prim (.fld 2) [.v 9] <|
             .prim .idx [.v 7, .v 23] <|
             .prim .get [.v 7, .v 24] <|
             .prim (.fld 3) [.v 9] <|
             .prim (.bin .neq) [.v 25, .v 26] <|
             .ite (.v 27) (
              .jmp 0 false [.c (.bool true)]) (
              .prim (.fld 1) [.v 9] <|
              .prim (.bin .eql) [.v 28, .c (.int .i64 1)] <|
              .ite (.v 29) (
               .prim (.fld 4) [.v 9] <|
               .prim (.fld 3) [.v 9] <|
               .prim (.bin .neq) [.v 30, .v 31] <|
               .jmp 0 false [.v 32]) (
               .jmp 0 false [.c (.bool false)]))))))))) 1 <|
      .ite (.v 10) (
       .jmp 0 false [.c (.bool false), .v 7]) (
       .prim (.fld 2) [.v 9] <|
       .prim (.fld 4) [.v 9] <|
       .prim .idx [.v 7, .v 11] <|
       .prim .set [.v 7, .v 13, .v 12] <|
       .jmp 0 false [.c (.bool true), .v 14])) 2 <|
     .prim (.bin .add) [.v 6, .c (.int .i64 1)] <|
     .jmp 0 true [.v 12, .v 11]) (
     .jmp 1 false [.v 7]))) 1 <|
  .jmp 0 false [.v 6, .c (.int .i64 0)])
theorem a_trace_After : treeOf cx 12 41 = some A_trace_After.erase := by kernel_rfl
theorem k_trace_After : FnOk cx 12 noC 41 F_trace_After := fn_ok (t := A_trace_After) a_trace_After (fun _ => rfl) (ok_of [(46, F_trace_Holds)] (by kernel_rfl) (.cons k_trace_Holds .nil)) (fun x => by kernel_rfl)

/-! 43: backstay/backstayref21.First -/
noncomputable def r21_First_L1 (x0 : List Deed) (x1 : Int) (s : Int) : Option (Int ⊕ Unit ⊕ Int) :=
  if decide (s < (List.length x0 : Int)) then
    (r21_holds x0 s x1).bind fun v6 =>
    if !v6 then
      some (Sum.inr (Sum.inr (s)))
    else
      some (Sum.inl (w64 (s + (1 : Int))))
  else
    some (Sum.inr (Sum.inl ()))
noncomputable def r21_First (p0 : List Deed) (p1 : Int) : Option Int :=
  if (decide (p1 < (1 : Int))) || (decide ((64 : Int) < p1)) then
    some ((0 : Int))
  else
    orExit (
      loopD (r21_First_L1 p0 p1) (0 : Int) : Option (Unit ⊕ Int)) fun v3 =>
    some ((List.length p0 : Int))
noncomputable def F_r21_First : FnT := ⟨[.sl tDeed, .int .i64], [.int .i64], fun x => r21_First x.1 x.2⟩
noncomputable def A_r21_First : TA :=
 .subp [.bool] (
  .prim (.bin .lss) [.v 1, .c (.int .i64 1)] <|
  .ite (.v 2) (
   .jmp 0 false [.c (.bool true)]) (
   .prim (.bin .gtr) [.v 1, .c (.int .i64 64)] <|
   .jmp 0 false [.v 3])) 1 <|
 .ite (.v 2) (
  .jmp 0 false [.c (.int .i64 0)]) (
  .sub1 [] (
   .loop [.int .i64] [.c (.int .i64 0)] (
    .prim .len [.v 0] <|
    .prim (.bin .lss) [.v 3, .v 4] <|
    .ite (.v 5) (
     .call 80 F_r21_holds [.v 0, .v 3, .v 1] 1 <|
     .prim (.un .not) [.v 6] <|
     .ite (.v 7) (
      .jmp 2 false [.v 3]) (
      .prim (.bin .add) [.v 3, .c (.int .i64 1)] <|
      .jmp 0 true [.v 8])) (
     .jmp 1 false []))) 0 <|
  .prim .len [.v 0] <|
  .jmp 0 false [.v 3])
theorem a_r21_First : treeOf cx 12 43 = some A_r21_First.erase := by kernel_rfl
theorem k_r21_First : FnOk cx 12 noC 43 F_r21_First := fn_ok (t := A_r21_First) a_r21_First (fun _ => rfl) (ok_of [(80, F_r21_holds)] (by kernel_rfl) (.cons k_r21_holds .nil)) (fun x => by kernel_rfl)

/-! 40: backstay/backstaylaw21.awake -/
def l21_awake : Bool := true
def F_l21_awake : PnT := ⟨[], [.bool], fun _ => l21_awake⟩
theorem k_l21_awake : FnOk cx 12 noC 40 F_l21_awake.fn := fun ds x r hx hr => by
  have hx : ds = [] := hx
  subst hx
  exact ⟨[.bool true], call_now 100 12 (by kernel_rfl), .bool true, rfl, congrArg D.bool (Option.some.inj hr)⟩

/-! 42: backstay/backstayref21.After -/
noncomputable def r21_After_L1 (x0 : List Deed) (x1 : Int) (s : (Int × (List Int))) : Option ((Int × (List Int)) ⊕ (List Int)) :=
  if decide (s.1 < x1) then
    (appO 32 ([] : List Deed) x0).bind fun v6 =>
    (appO 32 v6 ([Deed.mk (0 : Int) (0 : Int) s.1 (0 : Int) (0 : Int)] : List Deed)).bind fun v9 =>
    (r21_Sees v9 (List.length x0 : Int)).bind fun v11 =>
    (
      if decide ((0 : Int) ≤ v11) then
        (getO x0 v11).bind fun v13 =>
        (appO 4 s.2 ([Deed.Val v13] : List Int)).bind fun v16 =>
        some (v16)
      else
        (appO 4 s.2 ([(0 : Int)] : List Int)).bind fun v13 =>
        some (v13) : Option (List Int)).bind fun v13 =>
    some (Sum.inl (w64 (s.1 + (1 : Int)), v13))
  else
    some (Sum.inr (s.2))
noncomputable def r21_After (p0 : List Deed) (p1 : Int) : Option ((List Int) × Int) :=
  (
    if decide (p1 < (1 : Int)) then
      some (true)
    else
      if decide ((64 : Int) < p1) then
        some (true)
      else
        (r21_First p0 p1).bind fun v4 =>
        some ((!decide (v4 = (List.length p0 : Int)))) : Option Bool).bind fun v2 =>
  if v2 then
    some ((([] : List Int), (1 : Int)))
  else
    (
      loopD (r21_After_L1 p0 p1) ((0 : Int), ([] : List Int)) : Option (List Int)).bind fun v3 =>
    some ((v3, (0 : Int)))
noncomputable def F_r21_After : FnT := ⟨[.sl tDeed, .int .i64], [.sl (.int .u32), .int .i64], fun x => r21_After x.1 x.2⟩
noncomputable def A_r21_After : TA :=
 .sub0 [.bool] (
  .prim (.bin .lss) [.v 1, .c (.int .i64 1)] <|
  .ite (.v 2) (
   .jmp 0 false [.c (.bool true)]) (
   .prim (.bin .gtr) [.v 1, .c (.int .i64 64)] <|
   .ite (.v 3) (
    .jmp 0 false [.c (.bool true)]) (
    .call 43 F_r21_First [.v 0, .v 1] 1 <|
    .prim .len [.v 0] <|
    .prim (.bin .neq) [.v 4, .v 5] <|
    .jmp 0 false [.v 6]))) 1 <|
 .ite (.v 2) (
  .jmp 0 false [.c .nil, .c (.int .i64 1)]) (
  .sub0 [.sl (.int .u32)] (
   .loop [.int .i64, .sl (.int .u32)] [.c (.int .i64 0), .c .nil] (
    .prim (.bin .lss) [.v 3, .v 1] <|
    .ite (.v 5) (
     .primH (.app 32) (.sl tDeed) [.c (.sl []), .v 0] <|
     .mkS tsDeed [.c (.int .i64 0), .c (.int .i64 0), .v 3, .c (.int .u32 0), .c (.int .u32 0)] <|
     .mkL tDeed [.v 7] <|
     .prim (.app 32) [.v 6, .v 8] <|
     .prim .len [.v 0] <|
     .call 48 F_r21_Sees [.v 9, .v 10] 1 <|
     .prim (.bin .geq) [.v 11, .c (.int .i64 0)] <|
     .sub0 [.sl (.int .u32)] (
      .ite (.v 12) (
       .prim .get [.v 0, .v 11] <|
       .prim (.fld 4) [.v 13] <|
       .mkL (.int .u32) [.v 14] <|
       .prim (.app 4) [.v 4, .v 15] <|
       .jmp 0 false [.v 16]) (
       .primH (.app 4) (.sl (.int .u32)) [.v 4, .c (.sl [(.int .u32 0)])] <|
       .jmp 0 false [.v 13])) 1 <|
     .prim (.bin .add) [.v 3, .c (.int .i64 1)] <|
     .jmp 0 true [.v 14, .v 13]) (
     .jmp 1 false [.v 4]))) 1 <|
  .jmp 0 false [.v 3, .c (.int .i64 0)])
theorem a_r21_After : treeOf cx 12 42 = some A_r21_After.erase := by kernel_rfl
theorem k_r21_After : FnOk cx 12 noC 42 F_r21_After := fn_ok (t := A_r21_After) a_r21_After (fun _ => rfl) (ok_of [(43, F_r21_First), (48, F_r21_Sees)] (by kernel_rfl) (.cons k_r21_First (.cons k_r21_Sees .nil))) (fun x => by kernel_rfl)

end Go.Proofs.Ytflnpiknckdmfaa
