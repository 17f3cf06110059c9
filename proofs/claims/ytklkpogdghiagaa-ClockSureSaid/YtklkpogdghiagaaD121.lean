/- The types of this cut, and its functions as functions of plain typed data. Printed by a program of this claim's prover; each is checked here to be what the executor makes of the code. -/
import Derived.Test.YtklkpogdghiagaaProg
import Derived.Test.YtklkpogdghiagaaLim
import Derived.KernelRfl
set_option linter.unusedVariables false
set_option maxRecDepth 100000
namespace Go.Proofs.Ytklkpogdghiagaa
open Go.SX
abbrev tsl11_Do : List Ty := [.int .u8, .int .u8, .int .u8, .int .u32]
abbrev tl11_Do : Ty := .st tsl11_Do
abbrev l11_Do : Type := Int × Int × Int × Int
def l11_Do.mk (Kind : Int) (At : Int) (To : Int) (Val : Int) : l11_Do := (Kind, At, To, Val)
def l11_Do.Kind (x : l11_Do) : Int := x.1
def l11_Do.At (x : l11_Do) : Int := x.2.1
def l11_Do.To (x : l11_Do) : Int := x.2.2.1
def l11_Do.Val (x : l11_Do) : Int := x.2.2.2
def l11_Do.setKind (x : l11_Do) (v : Int) : l11_Do := (v, x.2.1, x.2.2.1, x.2.2.2)
def l11_Do.setAt (x : l11_Do) (v : Int) : l11_Do := (x.1, v, x.2.2.1, x.2.2.2)
def l11_Do.setTo (x : l11_Do) (v : Int) : l11_Do := (x.1, x.2.1, v, x.2.2.2)
def l11_Do.setVal (x : l11_Do) (v : Int) : l11_Do := (x.1, x.2.1, x.2.2.1, v)
@[simp] theorem l11_Do.Kind_mk (Kind : Int) (At : Int) (To : Int) (Val : Int) : l11_Do.Kind (l11_Do.mk Kind At To Val) = Kind := rfl
@[simp] theorem l11_Do.At_mk (Kind : Int) (At : Int) (To : Int) (Val : Int) : l11_Do.At (l11_Do.mk Kind At To Val) = At := rfl
@[simp] theorem l11_Do.To_mk (Kind : Int) (At : Int) (To : Int) (Val : Int) : l11_Do.To (l11_Do.mk Kind At To Val) = To := rfl
@[simp] theorem l11_Do.Val_mk (Kind : Int) (At : Int) (To : Int) (Val : Int) : l11_Do.Val (l11_Do.mk Kind At To Val) = Val := rfl
@[simp] theorem l11_Do.setKind_eq (x : l11_Do) (v : Int) : l11_Do.setKind x v = l11_Do.mk v (l11_Do.At x) (l11_Do.To x) (l11_Do.Val x) := rfl
@[simp] theorem l11_Do.setAt_eq (x : l11_Do) (v : Int) : l11_Do.setAt x v = l11_Do.mk (l11_Do.Kind x) v (l11_Do.To x) (l11_Do.Val x) := rfl
@[simp] theorem l11_Do.setTo_eq (x : l11_Do) (v : Int) : l11_Do.setTo x v = l11_Do.mk (l11_Do.Kind x) (l11_Do.At x) v (l11_Do.Val x) := rfl
@[simp] theorem l11_Do.setVal_eq (x : l11_Do) (v : Int) : l11_Do.setVal x v = l11_Do.mk (l11_Do.Kind x) (l11_Do.At x) (l11_Do.To x) v := rfl
@[simp] theorem l11_Do.eta (x : l11_Do) : l11_Do.mk (l11_Do.Kind x) (l11_Do.At x) (l11_Do.To x) (l11_Do.Val x) = x := rfl

abbrev tsruntime_boundsError : List Ty := [.int .i64, .int .i64, .bool, .int .u8]
abbrev truntime_boundsError : Ty := .st tsruntime_boundsError
abbrev runtime_boundsError : Type := Int × Int × Bool × Int
def runtime_boundsError.mk (x : Int) (y : Int) (signed : Bool) (code : Int) : runtime_boundsError := (x, y, signed, code)
def runtime_boundsError.x (x : runtime_boundsError) : Int := x.1
def runtime_boundsError.y (x : runtime_boundsError) : Int := x.2.1
def runtime_boundsError.signed (x : runtime_boundsError) : Bool := x.2.2.1
def runtime_boundsError.code (x : runtime_boundsError) : Int := x.2.2.2
def runtime_boundsError.setx (x : runtime_boundsError) (v : Int) : runtime_boundsError := (v, x.2.1, x.2.2.1, x.2.2.2)
def runtime_boundsError.sety (x : runtime_boundsError) (v : Int) : runtime_boundsError := (x.1, v, x.2.2.1, x.2.2.2)
def runtime_boundsError.setsigned (x : runtime_boundsError) (v : Bool) : runtime_boundsError := (x.1, x.2.1, v, x.2.2.2)
def runtime_boundsError.setcode (x : runtime_boundsError) (v : Int) : runtime_boundsError := (x.1, x.2.1, x.2.2.1, v)
@[simp] theorem runtime_boundsError.x_mk (x : Int) (y : Int) (signed : Bool) (code : Int) : runtime_boundsError.x (runtime_boundsError.mk x y signed code) = x := rfl
@[simp] theorem runtime_boundsError.y_mk (x : Int) (y : Int) (signed : Bool) (code : Int) : runtime_boundsError.y (runtime_boundsError.mk x y signed code) = y := rfl
@[simp] theorem runtime_boundsError.signed_mk (x : Int) (y : Int) (signed : Bool) (code : Int) : runtime_boundsError.signed (runtime_boundsError.mk x y signed code) = signed := rfl
@[simp] theorem runtime_boundsError.code_mk (x : Int) (y : Int) (signed : Bool) (code : Int) : runtime_boundsError.code (runtime_boundsError.mk x y signed code) = code := rfl
@[simp] theorem runtime_boundsError.setx_eq (x : runtime_boundsError) (v : Int) : runtime_boundsError.setx x v = runtime_boundsError.mk v (runtime_boundsError.y x) (runtime_boundsError.signed x) (runtime_boundsError.code x) := rfl
@[simp] theorem runtime_boundsError.sety_eq (x : runtime_boundsError) (v : Int) : runtime_boundsError.sety x v = runtime_boundsError.mk (runtime_boundsError.x x) v (runtime_boundsError.signed x) (runtime_boundsError.code x) := rfl
@[simp] theorem runtime_boundsError.setsigned_eq (x : runtime_boundsError) (v : Bool) : runtime_boundsError.setsigned x v = runtime_boundsError.mk (runtime_boundsError.x x) (runtime_boundsError.y x) v (runtime_boundsError.code x) := rfl
@[simp] theorem runtime_boundsError.setcode_eq (x : runtime_boundsError) (v : Int) : runtime_boundsError.setcode x v = runtime_boundsError.mk (runtime_boundsError.x x) (runtime_boundsError.y x) (runtime_boundsError.signed x) v := rfl
@[simp] theorem runtime_boundsError.eta (x : runtime_boundsError) : runtime_boundsError.mk (runtime_boundsError.x x) (runtime_boundsError.y x) (runtime_boundsError.signed x) (runtime_boundsError.code x) = x := rfl

abbrev tsMsg : List Ty := [.int .i64, .int .i64, .int .i64, .int .i64, .int .i64, .int .i64, .bool, .int .u32, .int .u32]
abbrev tMsg : Ty := .st tsMsg
abbrev Msg : Type := Int × Int × Int × Int × Int × Int × Bool × Int × Int
def Msg.mk (Kind : Int) (From : Int) (To : Int) (Line : Int) (For : Int) (Acks : Int) (Own : Bool) (Num : Int) (Val : Int) : Msg := (Kind, From, To, Line, For, Acks, Own, Num, Val)
def Msg.Kind (x : Msg) : Int := x.1
def Msg.From (x : Msg) : Int := x.2.1
def Msg.To (x : Msg) : Int := x.2.2.1
def Msg.Line (x : Msg) : Int := x.2.2.2.1
def Msg.For (x : Msg) : Int := x.2.2.2.2.1
def Msg.Acks (x : Msg) : Int := x.2.2.2.2.2.1
def Msg.Own (x : Msg) : Bool := x.2.2.2.2.2.2.1
def Msg.Num (x : Msg) : Int := x.2.2.2.2.2.2.2.1
def Msg.Val (x : Msg) : Int := x.2.2.2.2.2.2.2.2
def Msg.setKind (x : Msg) (v : Int) : Msg := (v, x.2.1, x.2.2.1, x.2.2.2.1, x.2.2.2.2.1, x.2.2.2.2.2.1, x.2.2.2.2.2.2.1, x.2.2.2.2.2.2.2.1, x.2.2.2.2.2.2.2.2)
def Msg.setFrom (x : Msg) (v : Int) : Msg := (x.1, v, x.2.2.1, x.2.2.2.1, x.2.2.2.2.1, x.2.2.2.2.2.1, x.2.2.2.2.2.2.1, x.2.2.2.2.2.2.2.1, x.2.2.2.2.2.2.2.2)
def Msg.setTo (x : Msg) (v : Int) : Msg := (x.1, x.2.1, v, x.2.2.2.1, x.2.2.2.2.1, x.2.2.2.2.2.1, x.2.2.2.2.2.2.1, x.2.2.2.2.2.2.2.1, x.2.2.2.2.2.2.2.2)
def Msg.setLine (x : Msg) (v : Int) : Msg := (x.1, x.2.1, x.2.2.1, v, x.2.2.2.2.1, x.2.2.2.2.2.1, x.2.2.2.2.2.2.1, x.2.2.2.2.2.2.2.1, x.2.2.2.2.2.2.2.2)
def Msg.setFor (x : Msg) (v : Int) : Msg := (x.1, x.2.1, x.2.2.1, x.2.2.2.1, v, x.2.2.2.2.2.1, x.2.2.2.2.2.2.1, x.2.2.2.2.2.2.2.1, x.2.2.2.2.2.2.2.2)
def Msg.setAcks (x : Msg) (v : Int) : Msg := (x.1, x.2.1, x.2.2.1, x.2.2.2.1, x.2.2.2.2.1, v, x.2.2.2.2.2.2.1, x.2.2.2.2.2.2.2.1, x.2.2.2.2.2.2.2.2)
def Msg.setOwn (x : Msg) (v : Bool) : Msg := (x.1, x.2.1, x.2.2.1, x.2.2.2.1, x.2.2.2.2.1, x.2.2.2.2.2.1, v, x.2.2.2.2.2.2.2.1, x.2.2.2.2.2.2.2.2)
def Msg.setNum (x : Msg) (v : Int) : Msg := (x.1, x.2.1, x.2.2.1, x.2.2.2.1, x.2.2.2.2.1, x.2.2.2.2.2.1, x.2.2.2.2.2.2.1, v, x.2.2.2.2.2.2.2.2)
def Msg.setVal (x : Msg) (v : Int) : Msg := (x.1, x.2.1, x.2.2.1, x.2.2.2.1, x.2.2.2.2.1, x.2.2.2.2.2.1, x.2.2.2.2.2.2.1, x.2.2.2.2.2.2.2.1, v)
@[simp] theorem Msg.Kind_mk (Kind : Int) (From : Int) (To : Int) (Line : Int) (For : Int) (Acks : Int) (Own : Bool) (Num : Int) (Val : Int) : Msg.Kind (Msg.mk Kind From To Line For Acks Own Num Val) = Kind := rfl
@[simp] theorem Msg.From_mk (Kind : Int) (From : Int) (To : Int) (Line : Int) (For : Int) (Acks : Int) (Own : Bool) (Num : Int) (Val : Int) : Msg.From (Msg.mk Kind From To Line For Acks Own Num Val) = From := rfl
@[simp] theorem Msg.To_mk (Kind : Int) (From : Int) (To : Int) (Line : Int) (For : Int) (Acks : Int) (Own : Bool) (Num : Int) (Val : Int) : Msg.To (Msg.mk Kind From To Line For Acks Own Num Val) = To := rfl
@[simp] theorem Msg.Line_mk (Kind : Int) (From : Int) (To : Int) (Line : Int) (For : Int) (Acks : Int) (Own : Bool) (Num : Int) (Val : Int) : Msg.Line (Msg.mk Kind From To Line For Acks Own Num Val) = Line := rfl
@[simp] theorem Msg.For_mk (Kind : Int) (From : Int) (To : Int) (Line : Int) (For : Int) (Acks : Int) (Own : Bool) (Num : Int) (Val : Int) : Msg.For (Msg.mk Kind From To Line For Acks Own Num Val) = For := rfl
@[simp] theorem Msg.Acks_mk (Kind : Int) (From : Int) (To : Int) (Line : Int) (For : Int) (Acks : Int) (Own : Bool) (Num : Int) (Val : Int) : Msg.Acks (Msg.mk Kind From To Line For Acks Own Num Val) = Acks := rfl
@[simp] theorem Msg.Own_mk (Kind : Int) (From : Int) (To : Int) (Line : Int) (For : Int) (Acks : Int) (Own : Bool) (Num : Int) (Val : Int) : Msg.Own (Msg.mk Kind From To Line For Acks Own Num Val) = Own := rfl
@[simp] theorem Msg.Num_mk (Kind : Int) (From : Int) (To : Int) (Line : Int) (For : Int) (Acks : Int) (Own : Bool) (Num : Int) (Val : Int) : Msg.Num (Msg.mk Kind From To Line For Acks Own Num Val) = Num := rfl
@[simp] theorem Msg.Val_mk (Kind : Int) (From : Int) (To : Int) (Line : Int) (For : Int) (Acks : Int) (Own : Bool) (Num : Int) (Val : Int) : Msg.Val (Msg.mk Kind From To Line For Acks Own Num Val) = Val := rfl
@[simp] theorem Msg.setKind_eq (x : Msg) (v : Int) : Msg.setKind x v = Msg.mk v (Msg.From x) (Msg.To x) (Msg.Line x) (Msg.For x) (Msg.Acks x) (Msg.Own x) (Msg.Num x) (Msg.Val x) := rfl
@[simp] theorem Msg.setFrom_eq (x : Msg) (v : Int) : Msg.setFrom x v = Msg.mk (Msg.Kind x) v (Msg.To x) (Msg.Line x) (Msg.For x) (Msg.Acks x) (Msg.Own x) (Msg.Num x) (Msg.Val x) := rfl
@[simp] theorem Msg.setTo_eq (x : Msg) (v : Int) : Msg.setTo x v = Msg.mk (Msg.Kind x) (Msg.From x) v (Msg.Line x) (Msg.For x) (Msg.Acks x) (Msg.Own x) (Msg.Num x) (Msg.Val x) := rfl
@[simp] theorem Msg.setLine_eq (x : Msg) (v : Int) : Msg.setLine x v = Msg.mk (Msg.Kind x) (Msg.From x) (Msg.To x) v (Msg.For x) (Msg.Acks x) (Msg.Own x) (Msg.Num x) (Msg.Val x) := rfl
@[simp] theorem Msg.setFor_eq (x : Msg) (v : Int) : Msg.setFor x v = Msg.mk (Msg.Kind x) (Msg.From x) (Msg.To x) (Msg.Line x) v (Msg.Acks x) (Msg.Own x) (Msg.Num x) (Msg.Val x) := rfl
@[simp] theorem Msg.setAcks_eq (x : Msg) (v : Int) : Msg.setAcks x v = Msg.mk (Msg.Kind x) (Msg.From x) (Msg.To x) (Msg.Line x) (Msg.For x) v (Msg.Own x) (Msg.Num x) (Msg.Val x) := rfl
@[simp] theorem Msg.setOwn_eq (x : Msg) (v : Bool) : Msg.setOwn x v = Msg.mk (Msg.Kind x) (Msg.From x) (Msg.To x) (Msg.Line x) (Msg.For x) (Msg.Acks x) v (Msg.Num x) (Msg.Val x) := rfl
@[simp] theorem Msg.setNum_eq (x : Msg) (v : Int) : Msg.setNum x v = Msg.mk (Msg.Kind x) (Msg.From x) (Msg.To x) (Msg.Line x) (Msg.For x) (Msg.Acks x) (Msg.Own x) v (Msg.Val x) := rfl
@[simp] theorem Msg.setVal_eq (x : Msg) (v : Int) : Msg.setVal x v = Msg.mk (Msg.Kind x) (Msg.From x) (Msg.To x) (Msg.Line x) (Msg.For x) (Msg.Acks x) (Msg.Own x) (Msg.Num x) v := rfl
@[simp] theorem Msg.eta (x : Msg) : Msg.mk (Msg.Kind x) (Msg.From x) (Msg.To x) (Msg.Line x) (Msg.For x) (Msg.Acks x) (Msg.Own x) (Msg.Num x) (Msg.Val x) = x := rfl

abbrev tsUndo : List Ty := [.int .i64, .int .i64, .int .u32]
abbrev tUndo : Ty := .st tsUndo
abbrev Undo : Type := Int × Int × Int
def Undo.mk (Span : Int) (At : Int) (Val : Int) : Undo := (Span, At, Val)
def Undo.Span (x : Undo) : Int := x.1
def Undo.At (x : Undo) : Int := x.2.1
def Undo.Val (x : Undo) : Int := x.2.2
def Undo.setSpan (x : Undo) (v : Int) : Undo := (v, x.2.1, x.2.2)
def Undo.setAt (x : Undo) (v : Int) : Undo := (x.1, v, x.2.2)
def Undo.setVal (x : Undo) (v : Int) : Undo := (x.1, x.2.1, v)
@[simp] theorem Undo.Span_mk (Span : Int) (At : Int) (Val : Int) : Undo.Span (Undo.mk Span At Val) = Span := rfl
@[simp] theorem Undo.At_mk (Span : Int) (At : Int) (Val : Int) : Undo.At (Undo.mk Span At Val) = At := rfl
@[simp] theorem Undo.Val_mk (Span : Int) (At : Int) (Val : Int) : Undo.Val (Undo.mk Span At Val) = Val := rfl
@[simp] theorem Undo.setSpan_eq (x : Undo) (v : Int) : Undo.setSpan x v = Undo.mk v (Undo.At x) (Undo.Val x) := rfl
@[simp] theorem Undo.setAt_eq (x : Undo) (v : Int) : Undo.setAt x v = Undo.mk (Undo.Span x) v (Undo.Val x) := rfl
@[simp] theorem Undo.setVal_eq (x : Undo) (v : Int) : Undo.setVal x v = Undo.mk (Undo.Span x) (Undo.At x) v := rfl
@[simp] theorem Undo.eta (x : Undo) : Undo.mk (Undo.Span x) (Undo.At x) (Undo.Val x) = x := rfl

abbrev tsruntime_errorAddressString : List Ty := [.str, .int .u64]
abbrev truntime_errorAddressString : Ty := .st tsruntime_errorAddressString
abbrev runtime_errorAddressString : Type := (List Int) × Int
def runtime_errorAddressString.mk (msg : List Int) (addr : Int) : runtime_errorAddressString := (msg, addr)
def runtime_errorAddressString.msg (x : runtime_errorAddressString) : List Int := x.1
def runtime_errorAddressString.addr (x : runtime_errorAddressString) : Int := x.2
def runtime_errorAddressString.setmsg (x : runtime_errorAddressString) (v : List Int) : runtime_errorAddressString := (v, x.2)
def runtime_errorAddressString.setaddr (x : runtime_errorAddressString) (v : Int) : runtime_errorAddressString := (x.1, v)
@[simp] theorem runtime_errorAddressString.msg_mk (msg : List Int) (addr : Int) : runtime_errorAddressString.msg (runtime_errorAddressString.mk msg addr) = msg := rfl
@[simp] theorem runtime_errorAddressString.addr_mk (msg : List Int) (addr : Int) : runtime_errorAddressString.addr (runtime_errorAddressString.mk msg addr) = addr := rfl
@[simp] theorem runtime_errorAddressString.setmsg_eq (x : runtime_errorAddressString) (v : List Int) : runtime_errorAddressString.setmsg x v = runtime_errorAddressString.mk v (runtime_errorAddressString.addr x) := rfl
@[simp] theorem runtime_errorAddressString.setaddr_eq (x : runtime_errorAddressString) (v : Int) : runtime_errorAddressString.setaddr x v = runtime_errorAddressString.mk (runtime_errorAddressString.msg x) v := rfl
@[simp] theorem runtime_errorAddressString.eta (x : runtime_errorAddressString) : runtime_errorAddressString.mk (runtime_errorAddressString.msg x) (runtime_errorAddressString.addr x) = x := rfl

abbrev tsl12_Do : List Ty := [.int .u8, .int .u8]
abbrev tl12_Do : Ty := .st tsl12_Do
abbrev l12_Do : Type := Int × Int
def l12_Do.mk (Kind : Int) (More : Int) : l12_Do := (Kind, More)
def l12_Do.Kind (x : l12_Do) : Int := x.1
def l12_Do.More (x : l12_Do) : Int := x.2
def l12_Do.setKind (x : l12_Do) (v : Int) : l12_Do := (v, x.2)
def l12_Do.setMore (x : l12_Do) (v : Int) : l12_Do := (x.1, v)
@[simp] theorem l12_Do.Kind_mk (Kind : Int) (More : Int) : l12_Do.Kind (l12_Do.mk Kind More) = Kind := rfl
@[simp] theorem l12_Do.More_mk (Kind : Int) (More : Int) : l12_Do.More (l12_Do.mk Kind More) = More := rfl
@[simp] theorem l12_Do.setKind_eq (x : l12_Do) (v : Int) : l12_Do.setKind x v = l12_Do.mk v (l12_Do.More x) := rfl
@[simp] theorem l12_Do.setMore_eq (x : l12_Do) (v : Int) : l12_Do.setMore x v = l12_Do.mk (l12_Do.Kind x) v := rfl
@[simp] theorem l12_Do.eta (x : l12_Do) : l12_Do.mk (l12_Do.Kind x) (l12_Do.More x) = x := rfl

abbrev tsEntry : List Ty := [.int .i64, .sl .bool]
abbrev tEntry : Ty := .st tsEntry
abbrev Entry : Type := Int × (List Bool)
def Entry.mk (Owner : Int) (Share : List Bool) : Entry := (Owner, Share)
def Entry.Owner (x : Entry) : Int := x.1
def Entry.Share (x : Entry) : List Bool := x.2
def Entry.setOwner (x : Entry) (v : Int) : Entry := (v, x.2)
def Entry.setShare (x : Entry) (v : List Bool) : Entry := (x.1, v)
@[simp] theorem Entry.Owner_mk (Owner : Int) (Share : List Bool) : Entry.Owner (Entry.mk Owner Share) = Owner := rfl
@[simp] theorem Entry.Share_mk (Owner : Int) (Share : List Bool) : Entry.Share (Entry.mk Owner Share) = Share := rfl
@[simp] theorem Entry.setOwner_eq (x : Entry) (v : Int) : Entry.setOwner x v = Entry.mk v (Entry.Share x) := rfl
@[simp] theorem Entry.setShare_eq (x : Entry) (v : List Bool) : Entry.setShare x v = Entry.mk (Entry.Owner x) v := rfl
@[simp] theorem Entry.eta (x : Entry) : Entry.mk (Entry.Owner x) (Entry.Share x) = x := rfl

abbrev tsCore : List Ty := [.arr 8 (.int .u32), .int .i64, .bool]
abbrev tCore : Ty := .st tsCore
abbrev Core : Type := (List Int) × Int × Bool
def Core.mk (Regs : List Int) (PC : Int) (Halted : Bool) : Core := (Regs, PC, Halted)
def Core.Regs (x : Core) : List Int := x.1
def Core.PC (x : Core) : Int := x.2.1
def Core.Halted (x : Core) : Bool := x.2.2
def Core.setRegs (x : Core) (v : List Int) : Core := (v, x.2.1, x.2.2)
def Core.setPC (x : Core) (v : Int) : Core := (x.1, v, x.2.2)
def Core.setHalted (x : Core) (v : Bool) : Core := (x.1, x.2.1, v)
@[simp] theorem Core.Regs_mk (Regs : List Int) (PC : Int) (Halted : Bool) : Core.Regs (Core.mk Regs PC Halted) = Regs := rfl
@[simp] theorem Core.PC_mk (Regs : List Int) (PC : Int) (Halted : Bool) : Core.PC (Core.mk Regs PC Halted) = PC := rfl
@[simp] theorem Core.Halted_mk (Regs : List Int) (PC : Int) (Halted : Bool) : Core.Halted (Core.mk Regs PC Halted) = Halted := rfl
@[simp] theorem Core.setRegs_eq (x : Core) (v : List Int) : Core.setRegs x v = Core.mk v (Core.PC x) (Core.Halted x) := rfl
@[simp] theorem Core.setPC_eq (x : Core) (v : Int) : Core.setPC x v = Core.mk (Core.Regs x) v (Core.Halted x) := rfl
@[simp] theorem Core.setHalted_eq (x : Core) (v : Bool) : Core.setHalted x v = Core.mk (Core.Regs x) (Core.PC x) v := rfl
@[simp] theorem Core.eta (x : Core) : Core.mk (Core.Regs x) (Core.PC x) (Core.Halted x) = x := rfl

abbrev tsLog : List Ty := [.sl (.int .u32), .int .i64, .sl tUndo]
abbrev tLog : Ty := .st tsLog
abbrev Log : Type := (List Int) × Int × (List Undo)
def Log.mk (Mem : List Int) (Span : Int) (Lst : List Undo) : Log := (Mem, Span, Lst)
def Log.Mem (x : Log) : List Int := x.1
def Log.Span (x : Log) : Int := x.2.1
def Log.Lst (x : Log) : List Undo := x.2.2
def Log.setMem (x : Log) (v : List Int) : Log := (v, x.2.1, x.2.2)
def Log.setSpan (x : Log) (v : Int) : Log := (x.1, v, x.2.2)
def Log.setLst (x : Log) (v : List Undo) : Log := (x.1, x.2.1, v)
@[simp] theorem Log.Mem_mk (Mem : List Int) (Span : Int) (Lst : List Undo) : Log.Mem (Log.mk Mem Span Lst) = Mem := rfl
@[simp] theorem Log.Span_mk (Mem : List Int) (Span : Int) (Lst : List Undo) : Log.Span (Log.mk Mem Span Lst) = Span := rfl
@[simp] theorem Log.Lst_mk (Mem : List Int) (Span : Int) (Lst : List Undo) : Log.Lst (Log.mk Mem Span Lst) = Lst := rfl
@[simp] theorem Log.setMem_eq (x : Log) (v : List Int) : Log.setMem x v = Log.mk v (Log.Span x) (Log.Lst x) := rfl
@[simp] theorem Log.setSpan_eq (x : Log) (v : Int) : Log.setSpan x v = Log.mk (Log.Mem x) v (Log.Lst x) := rfl
@[simp] theorem Log.setLst_eq (x : Log) (v : List Undo) : Log.setLst x v = Log.mk (Log.Mem x) (Log.Span x) v := rfl
@[simp] theorem Log.eta (x : Log) : Log.mk (Log.Mem x) (Log.Span x) (Log.Lst x) = x := rfl

abbrev tsMark : List Ty := [.int .i64, .int .i64, .sl tCore]
abbrev tMark : Ty := .st tsMark
abbrev Mark : Type := Int × Int × (List Core)
def Mark.mk (Span : Int) (When : Int) (Cores : List Core) : Mark := (Span, When, Cores)
def Mark.Span (x : Mark) : Int := x.1
def Mark.When (x : Mark) : Int := x.2.1
def Mark.Cores (x : Mark) : List Core := x.2.2
def Mark.setSpan (x : Mark) (v : Int) : Mark := (v, x.2.1, x.2.2)
def Mark.setWhen (x : Mark) (v : Int) : Mark := (x.1, v, x.2.2)
def Mark.setCores (x : Mark) (v : List Core) : Mark := (x.1, x.2.1, v)
@[simp] theorem Mark.Span_mk (Span : Int) (When : Int) (Cores : List Core) : Mark.Span (Mark.mk Span When Cores) = Span := rfl
@[simp] theorem Mark.When_mk (Span : Int) (When : Int) (Cores : List Core) : Mark.When (Mark.mk Span When Cores) = When := rfl
@[simp] theorem Mark.Cores_mk (Span : Int) (When : Int) (Cores : List Core) : Mark.Cores (Mark.mk Span When Cores) = Cores := rfl
@[simp] theorem Mark.setSpan_eq (x : Mark) (v : Int) : Mark.setSpan x v = Mark.mk v (Mark.When x) (Mark.Cores x) := rfl
@[simp] theorem Mark.setWhen_eq (x : Mark) (v : Int) : Mark.setWhen x v = Mark.mk (Mark.Span x) v (Mark.Cores x) := rfl
@[simp] theorem Mark.setCores_eq (x : Mark) (v : List Core) : Mark.setCores x v = Mark.mk (Mark.Span x) (Mark.When x) v := rfl
@[simp] theorem Mark.eta (x : Mark) : Mark.mk (Mark.Span x) (Mark.When x) (Mark.Cores x) = x := rfl

abbrev tsClock : List Ty := [.sl tMark, .int .i64]
abbrev tClock : Ty := .st tsClock
abbrev Clock : Type := (List Mark) × Int
def Clock.mk (Marks : List Mark) (Wait : Int) : Clock := (Marks, Wait)
def Clock.Marks (x : Clock) : List Mark := x.1
def Clock.Wait (x : Clock) : Int := x.2
def Clock.setMarks (x : Clock) (v : List Mark) : Clock := (v, x.2)
def Clock.setWait (x : Clock) (v : Int) : Clock := (x.1, v)
@[simp] theorem Clock.Marks_mk (Marks : List Mark) (Wait : Int) : Clock.Marks (Clock.mk Marks Wait) = Marks := rfl
@[simp] theorem Clock.Wait_mk (Marks : List Mark) (Wait : Int) : Clock.Wait (Clock.mk Marks Wait) = Wait := rfl
@[simp] theorem Clock.setMarks_eq (x : Clock) (v : List Mark) : Clock.setMarks x v = Clock.mk v (Clock.Wait x) := rfl
@[simp] theorem Clock.setWait_eq (x : Clock) (v : Int) : Clock.setWait x v = Clock.mk (Clock.Marks x) v := rfl
@[simp] theorem Clock.eta (x : Clock) : Clock.mk (Clock.Marks x) (Clock.Wait x) = x := rfl

def tys : List Ty := [.no, .no, .int .i64, .int .i64, .bool, .int .u8, .int .u8, truntime_boundsError, truntime_boundsError, .str, .str, .str, .int .u64, truntime_errorAddressString, truntime_errorAddressString, .no, .no, .no, .no, .no, .no, .int .i32, .sl (.int .u8), .no, .sl .bool, tEntry, tEntry, .int .i64, .no, .no, .no, .no, .sl (.int .i64), .no, .no, .no, .no, .sl tMark, tClock, tClock, .int .u16, .no, .no, .no, .no, .sl tCore, tMark, tMark, .no, .no, .no, .no, .no, .no, .no, .no, .no, .no, .no, .no, .no, .no, .no, .no, .no, .no, .sl tl12_Do, .no, tl12_Do, tl12_Do, .no, .no, .no, .no, .sl (.int .u32), .sl tUndo, tLog, tLog, .no, .no, .no, .no, .int .u32, tUndo, tUndo, .no, .no, .no, tMsg, tMsg, .no, .no, .no, .no, .no, .no, .no, .no, .no, .no, .no, .int .u64, .no, .no, .no, .no, .no, .no, .no, .no, .no, .sl tl11_Do, .sl (.sl (.int .u32)), tl11_Do, tl11_Do, .no, .no, .no, .no, .arr 8 (.int .u32), tCore, tCore, .no, .no, .no, .no, .no, .no, .no, .no, .no, .no, .no, .no, .no, .no, .no, .arr 5 (.int .i64), .no, .no, .no, .arr 2 (.int .i64), .no, .no, .no, .no, .no, .no, .no, .arr 4 (.int .u8), .no, .sl (.sl (.int .u8)), .no, .no, .no, .no, .no, .no, .no, .no, .int .u8, .int .u8, .no, .no, .int .i32, .int .i32, .no, .no, .no]
noncomputable def cx : Cx := { P := Try.prog, ty := tys, own := [], inl := [63, 65, 67, 70, 75, 90, 92, 93, 94, 96, 99], keepL := [], absL := [46, 47, 63, 67, 75, 79], heads := [(4, [(20, 32968, ⟨21, 0, mkSlots 118 0 [(3, .p tClock tClock 0 []), (6, .d .bool (.c (.bool false))), (7, .p tClock tClock 1 []), (15, .d (.int .i64) (.v 20))], [.box tClock (.d tClock (.v 0)), .box tClock (.d tClock (.v 6))]⟩)]),
  (7, [(9, 440849048646257638631301771961779199751037606058498664658395215662417843, ⟨14, 0, mkSlots 240 0 [(0, .d (.int .u8) (.v 0)), (1, .d (.sl tl12_Do) (.v 1)), (4, .d .bool (.c (.bool false))), (5, .p tClock tClock 0 []), (7, .d (.int .i64) (.v 9)), (8, .d (.int .i64) (.v 10)), (9, .p tMark tMark 1 []), (10, .d (.int .i64) (.v 11))], [.box tClock (.d tClock (.v 12)), .box tMark (.d tMark (.v 13))]⟩),
    (28, 440849048646257638631301771961779199751037606058498664658395215704360883, ⟨29, 0, mkSlots 240 0 [(0, .d (.int .u8) (.v 0)), (1, .d (.sl tl12_Do) (.v 1)), (4, .d .bool (.c (.bool false))), (5, .p tClock tClock 0 []), (7, .d (.int .i64) (.v 18)), (8, .d (.int .i64) (.v 23)), (9, .p tMark tMark 1 []), (10, .d (.int .i64) (.v 11)), (23, .p tMark tMark 2 []), (25, .d (.int .i64) (.v 28))], [.box tClock (.d tClock (.v 24)), .box tMark (.d tMark (.v 13)), .box tMark (.d tMark (.v 25))]⟩)])] }
theorem tyOk : TysOk cx := chkTys_ok (by kernel_rfl)
theorem mixed : Try.prog.follows .mixedOrders = true := by kernel_rfl
def noC : FuncId → List D → Option (List D) := fun _ _ => none
theorem noC_ok : CallsOk cx noC := fun _ _ _ _ _ _ _ h => by cases h
theorem call_now {f : FuncId} {ds rs : List D} (k d : Nat) (h : callF cx k 12 noC d f ds = some rs) : callL cx 12 noC f ds = some rs := (callL_some cx 12 noC).2 ⟨k, d, h⟩

/-! 20: backstay/backstayref12.Short -/
noncomputable def r12_Short_L1 (x0 : Clock) (s : Int) : Option (Int ⊕ Unit ⊕ Bool) :=
  if decide (s < (List.length (Clock.Marks x0) : Int)) then
    (getO (Clock.Marks x0) s).bind fun v9 =>
    if decide ((8 : Int) < (List.length (Mark.Cores v9) : Int)) then
      some (Sum.inr (Sum.inr (false)))
    else
      some (Sum.inl (w64 (s + (1 : Int))))
  else
    some (Sum.inr (Sum.inl ()))
noncomputable def r12_Short (p0 : Clock) : Option Bool :=
  if decide ((12 : Int) < (List.length (Clock.Marks p0) : Int)) then
    some (false)
  else
    orExit (
      loopD (r12_Short_L1 p0) (0 : Int) : Option (Unit ⊕ Bool)) fun v4 =>
    some (true)
noncomputable def F_r12_Short : FnT := ⟨[tClock], [.bool], fun x => r12_Short x⟩
noncomputable def A_r12_Short : TA :=
 .prim (.fld 0) [.v 0] <|
 .prim .len [.v 1] <|
 .prim (.bin .gtr) [.v 2, .c (.int .i64 12)] <|
 .ite (.v 3) (
  .jmp 0 false [.c (.bool false)]) (
  .sub1 [] (
   .loop [.int .i64] [.c (.int .i64 0)] (
    .prim (.fld 0) [.v 0] <|
    .prim .len [.v 5] <|
    .prim (.bin .lss) [.v 4, .v 6] <|
    .ite (.v 7) (
     .prim (.fld 0) [.v 0] <|
     .prim .get [.v 8, .v 4] <|
     .prim (.fld 2) [.v 9] <|
     .prim .len [.v 10] <|
     .prim (.bin .gtr) [.v 11, .c (.int .i64 8)] <|
     .ite (.v 12) (
      .jmp 2 false [.c (.bool false)]) (
      .prim (.bin .add) [.v 4, .c (.int .i64 1)] <|
      .jmp 0 true [.v 13])) (
     .jmp 1 false []))) 0 <|
  .jmp 0 false [.c (.bool true)])
theorem a_r12_Short : treeOf cx 12 20 = some A_r12_Short.erase := by kernel_rfl
theorem k_r12_Short : FnOk cx 12 noC 20 F_r12_Short := fn_ok (t := A_r12_Short) a_r12_Short (fun _ => rfl) (ok_of [] (by kernel_rfl) .nil) (fun x => by kernel_rfl)

/-! 69: backstay/clock.sure -/
noncomputable def clock_sure_L1 (x0 : Clock) (x1 : Int) (x2 : List Mark) (x3 : Int) (s : (Int × Int)) : Option ((Int × Int) ⊕ Int) :=
  if decide (s.2 < x3) then
    (getO x2 s.2).bind fun v7 =>
    some (Sum.inl (bif decide ((Clock.Wait x0) ≤ (w64 (x1 - (Mark.When v7)))) then s.2 else s.1, w64 (s.2 + (1 : Int))))
  else
    some (Sum.inr (s.1))
noncomputable def clock_sure (p0 : Clock) (p1 : Int) : Option Int :=
  let v3 : Int := (List.length (Clock.Marks p0) : Int)
  (
    loopD (clock_sure_L1 p0 p1 (Clock.Marks p0) v3) ((0 : Int), (0 : Int)) : Option Int).bind fun v4 =>
  some (v4)
noncomputable def F_clock_sure : FnT := ⟨[tClock, .int .i64], [.int .i64], fun x => clock_sure x.1 x.2⟩
noncomputable def A_clock_sure : TA :=
 .prim (.fld 0) [.v 0] <|
 .prim .len [.v 2] <|
 .sub0 [.int .i64] (
  .loop [.int .i64, .int .i64] [.c (.int .i64 0), .c (.int .i64 0)] (
   .prim (.bin .lss) [.v 5, .v 3] <|
   .ite (.v 6) (
    .prim .get [.v 2, .v 5] <|
    .prim (.fld 1) [.v 7] <|
    .prim (.bin .sub) [.v 1, .v 8] <|
    .prim (.fld 1) [.v 0] <|
    .prim (.bin .geq) [.v 9, .v 10] <|
    .subp [.int .i64] (
     .ite (.v 11) (
      .jmp 0 false [.v 5]) (
      .jmp 0 false [.v 4])) 1 <|
    .prim (.bin .add) [.v 5, .c (.int .i64 1)] <|
    .jmp 0 true [.v 12, .v 13]) (
    .jmp 1 false [.v 4]))) 1 <|
 .jmp 0 false [.v 4]
theorem a_clock_sure : treeOf cx 12 69 = some A_clock_sure.erase := by kernel_rfl
theorem k_clock_sure : FnOk cx 12 noC 69 F_clock_sure := fn_ok (t := A_clock_sure) a_clock_sure (fun _ => rfl) (ok_of [] (by kernel_rfl) .nil) (fun x => by kernel_rfl)

/-! 71: backstay/backstayref04.Cores -/
noncomputable def r04_Cores_L1 (x0 : List Core) (x1 : List Core) (s : Int) : Option (Int ⊕ Unit ⊕ Bool) :=
  if decide (s < (List.length x0 : Int)) then
    (getO x0 s).bind fun v8 =>
    (getO x1 s).bind fun v9 =>
    if !(@decide (v8 = v9) (Ty.dec tCore _ _)) then
      some (Sum.inr (Sum.inr (false)))
    else
      some (Sum.inl (w64 (s + (1 : Int))))
  else
    some (Sum.inr (Sum.inl ()))
noncomputable def r04_Cores (p0 : List Core) (p1 : List Core) : Option Bool :=
  if !decide ((List.length p0 : Int) = (List.length p1 : Int)) then
    some (false)
  else
    orExit (
      loopD (r04_Cores_L1 p0 p1) (0 : Int) : Option (Unit ⊕ Bool)) fun v5 =>
    some (true)
noncomputable def F_r04_Cores : FnT := ⟨[.sl tCore, .sl tCore], [.bool], fun x => r04_Cores x.1 x.2⟩
noncomputable def A_r04_Cores : TA :=
 .prim .len [.v 0] <|
 .prim .len [.v 1] <|
 .prim (.bin .neq) [.v 2, .v 3] <|
 .ite (.v 4) (
  .jmp 0 false [.c (.bool false)]) (
  .sub1 [] (
   .loop [.int .i64] [.c (.int .i64 0)] (
    .prim .len [.v 0] <|
    .prim (.bin .lss) [.v 5, .v 6] <|
    .ite (.v 7) (
     .prim .get [.v 0, .v 5] <|
     .prim .get [.v 1, .v 5] <|
     .prim .eqv [.v 8, .v 9] <|
     .prim (.un .not) [.v 10] <|
     .ite (.v 11) (
      .jmp 2 false [.c (.bool false)]) (
      .prim (.bin .add) [.v 5, .c (.int .i64 1)] <|
      .jmp 0 true [.v 12])) (
     .jmp 1 false []))) 0 <|
  .jmp 0 false [.c (.bool true)])
theorem a_r04_Cores : treeOf cx 12 71 = some A_r04_Cores.erase := by kernel_rfl
theorem k_r04_Cores : FnOk cx 12 noC 71 F_r04_Cores := fn_ok (t := A_r04_Cores) a_r04_Cores (fun _ => rfl) (ok_of [] (by kernel_rfl) .nil) (fun x => by kernel_rfl)

/-! 74: backstay/clock.time -/
def clock_time (p0 : Int) : Bool :=
  (decide ((0 : Int) ≤ p0)) && (decide (p0 ≤ (1099511627776 : Int)))
def F_clock_time : PnT := ⟨[.int .i64], [.bool], fun x => clock_time x⟩
def A_clock_time : TA :=
 .subp [.bool] (
  .prim (.bin .geq) [.v 0, .c (.int .i64 0)] <|
  .ite (.v 1) (
   .prim (.bin .leq) [.v 0, .c (.int .i64 1099511627776)] <|
   .jmp 0 false [.v 2]) (
   .jmp 0 false [.c (.bool false)])) 1 <|
 .jmp 0 false [.v 1]
theorem a_clock_time : treeOf cx 12 74 = some A_clock_time.erase := by kernel_rfl
theorem k_clock_time : FnOk cx 12 noC 74 F_clock_time.fn := pn_ok (t := A_clock_time) a_clock_time (fun _ => rfl) (ok_of [] (by kernel_rfl) .nil) (fun x => by kernel_rfl)

/-! 24: backstay/backstayref12.Mark -/
noncomputable def r12_Mark (p0 : Mark) (p1 : Mark) : Option Bool :=
  (
    if decide ((Mark.Span p0) = (Mark.Span p1)) then
      if decide ((Mark.When p0) = (Mark.When p1)) then
        (r04_Cores (Mark.Cores p0) (Mark.Cores p1)).bind fun v10 =>
        some (v10)
      else
        some (false)
    else
      some (false) : Option Bool).bind fun v2 =>
  some (v2)
noncomputable def F_r12_Mark : FnT := ⟨[tMark, tMark], [.bool], fun x => r12_Mark x.1 x.2⟩
noncomputable def A_r12_Mark : TA :=
 .sub0 [.bool] (
  .prim (.fld 0) [.v 0] <|
  .prim (.fld 0) [.v 1] <|
  .prim (.bin .eql) [.v 2, .v 3] <|
  .ite (.v 4) (
   .prim (.fld 1) [.v 0] <|
   .prim (.fld 1) [.v 1] <|
   .prim (.bin .eql) [.v 5, .v 6] <|
   .ite (.v 7) (
    .prim (.fld 2) [.v 0] <|
    .prim (.fld 2) [.v 1] <|
    .call 71 F_r04_Cores [.v 8, .v 9] 1 <|
    .jmp 0 false [.v 10]) (
    .jmp 0 false [.c (.bool false)])) (
   .jmp 0 false [.c (.bool false)])) 1 <|
 .jmp 0 false [.v 2]
theorem a_r12_Mark : treeOf cx 12 24 = some A_r12_Mark.erase := by kernel_rfl
theorem k_r12_Mark : FnOk cx 12 noC 24 F_r12_Mark := fn_ok (t := A_r12_Mark) a_r12_Mark (fun _ => rfl) (ok_of [(71, F_r04_Cores)] (by kernel_rfl) (.cons k_r04_Cores .nil)) (fun x => by kernel_rfl)

/-! 38: backstay/clock.Right -/
noncomputable def clock_Right_L1 (x2 : List Mark) (x3 : Int) (s : (Int × Int × Int)) : Option ((Int × Int × Int) ⊕ Unit ⊕ Bool) :=
  if decide (s.2.2 < x3) then
    (getO x2 s.2.2).bind fun v8 =>
    if (!(clock_time (Mark.Span v8))) || ((!(clock_time (Mark.When v8))) || ((decide ((Mark.Span v8) ≤ s.1)) || ((decide ((Mark.When v8) ≤ s.2.1)) || (decide ((4 : Int) < (List.length (Mark.Cores v8) : Int)))))) then
      some (Sum.inr (Sum.inr (false)))
    else
      some (Sum.inl (Mark.Span v8, Mark.When v8, w64 (s.2.2 + (1 : Int))))
  else
    some (Sum.inr (Sum.inl ()))
noncomputable def clock_Right (p0 : Clock) : Option Bool :=
  if (decide ((List.length (Clock.Marks p0) : Int) < (1 : Int))) || ((decide ((8 : Int) < (List.length (Clock.Marks p0) : Int))) || ((decide ((Clock.Wait p0) < (1 : Int))) || (decide ((1048576 : Int) < (Clock.Wait p0))))) then
    some (false)
  else
    let v3 : Int := (List.length (Clock.Marks p0) : Int)
    orExit (
      loopD (clock_Right_L1 (Clock.Marks p0) v3) ((-1 : Int), (-1 : Int), (0 : Int)) : Option (Unit ⊕ Bool)) fun v4 =>
    some (true)
noncomputable def F_clock_Right : FnT := ⟨[tClock], [.bool], fun x => clock_Right x⟩
noncomputable def A_clock_Right : TA :=
 .subp [.bool] (
  .prim (.fld 0) [.v 0] <|
  .prim .len [.v 1] <|
  .prim (.bin .lss) [.v 2, .c (.int .i64 1)] <|
  .ite (.v 3) (
   .jmp 0 false [.c (.bool true)]) (
   .prim (.fld 0) [.v 0] <|
   .prim .len [.v 4] <|
   .prim (.bin .gtr) [.v 5, .c (.int .i64 8)] <|
   .ite (.v 6) (
    .jmp 0 false [.c (.bool true)]) (
    .prim (.fld 1) [.v 0] <|
    .prim (.bin .lss) [.v 7, .c (.int .i64 1)] <|
    .ite (.v 8) (
     .jmp 0 false [.c (.bool true)]) (
     .prim (.fld 1) [.v 0] <|
     .prim (.bin .gtr) [.v 9, .c (.int .i64 1048576)] <|
     .jmp 0 false [.v 10])))) 1 <|
 .ite (.v 1) (
  .jmp 0 false [.c (.bool false)]) (
  .prim (.fld 0) [.v 0] <|
  .prim .len [.v 2] <|
  .sub1 [] (
   .loop [.int .i64, .int .i64, .int .i64] [.c (.int .i64 (-1)), .c (.int .i64 (-1)), .c (.int .i64 0)] (
    .prim (.bin .lss) [.v 6, .v 3] <|
    .ite (.v 7) (
     .prim .get [.v 2, .v 6] <|
     .subp [.bool] (
      .prim (.fld 0) [.v 8] <|
      .callp 74 F_clock_time [.v 9] 1 <|
      .prim (.un .not) [.v 10] <|
      .ite (.v 11) (
       .jmp 0 false [.c (.bool true)]) (
       .prim (.fld 1) [.v 8] <|
       .callp 74 F_clock_time [.v 12] 1 <|
       .prim (.un .not) [.v 13] <|
       .ite (.v 14) (
        .jmp 0 false [.c (.bool true)]) (
        .prim (.fld 0) [.v 8] <|
        .prim (.bin .leq) [.v 15, .v 4] <|
        .ite (.v 16) (
         .jmp 0 false [.c (.bool true)]) (
         .prim (.fld 1) [.v 8] <|
         .prim (.bin .leq) [.v 17, .v 5] <|
         .ite (.v 18) (
          .jmp 0 false [.c (.bool true)]) (
          .prim (.fld 2) [.v 8] <|
          .prim .len [.v 19] <|
          .prim (.bin .gtr) [.v 20, .c (.int .i64 4)] <|
          .jmp 0 false [.v 21]))))) 1 <|
     .ite (.v 9) (
      .jmp 2 false [.c (.bool false)]) (
      .prim (.fld 0) [.v 8] <|
      .prim (.fld 1) [.v 8] <|
      .prim (.bin .add) [.v 6, .c (.int .i64 1)] <|
      .jmp 0 true [.v 10, .v 11, .v 12])) (
     .jmp 1 false []))) 0 <|
  .jmp 0 false [.c (.bool true)])
theorem a_clock_Right : treeOf cx 12 38 = some A_clock_Right.erase := by kernel_rfl
theorem k_clock_Right : FnOk cx 12 noC 38 F_clock_Right := fn_ok (t := A_clock_Right) a_clock_Right (fun _ => rfl) (ok_of [(74, F_clock_time.fn), (74, F_clock_time.fn)] (by kernel_rfl) (.cons k_clock_time (.cons k_clock_time .nil))) (fun x => by kernel_rfl)

/-! 22: backstay/backstayref12.Same -/
noncomputable def r12_Same_L1 (x0 : Clock) (x1 : Clock) (s : Int) : Option (Int ⊕ Unit ⊕ Bool) :=
  if decide (s < (List.length (Clock.Marks x0) : Int)) then
    (getO (Clock.Marks x0) s).bind fun v8 =>
    (getO (Clock.Marks x1) s).bind fun v10 =>
    (r12_Mark v8 v10).bind fun v11 =>
    if !v11 then
      some (Sum.inr (Sum.inr (false)))
    else
      some (Sum.inl (w64 (s + (1 : Int))))
  else
    some (Sum.inr (Sum.inl ()))
noncomputable def r12_Same (p0 : Clock) (p1 : Clock) : Option Bool :=
  if (!decide ((Clock.Wait p0) = (Clock.Wait p1))) || (!decide ((List.length (Clock.Marks p0) : Int) = (List.length (Clock.Marks p1) : Int))) then
    some (false)
  else
    orExit (
      loopD (r12_Same_L1 p0 p1) (0 : Int) : Option (Unit ⊕ Bool)) fun v3 =>
    some (true)
noncomputable def F_r12_Same : FnT := ⟨[tClock, tClock], [.bool], fun x => r12_Same x.1 x.2⟩
noncomputable def A_r12_Same : TA :=
 .subp [.bool] (
  .prim (.fld 1) [.v 0] <|
  .prim (.fld 1) [.v 1] <|
  .prim (.bin .neq) [.v 2, .v 3] <|
  .ite (.v 4) (
   .jmp 0 false [.c (.bool true)]) (
   .prim (.fld 0) [.v 0] <|
   .prim .len [.v 5] <|
   .prim (.fld 0) [.v 1] <|
   .prim .len [.v 7] <|
   .prim (.bin .neq) [.v 6, .v 8] <|
   .jmp 0 false [.v 9])) 1 <|
 .ite (.v 2) (
  .jmp 0 false [.c (.bool false)]) (
  .sub1 [] (
   .loop [.int .i64] [.c (.int .i64 0)] (
    .prim (.fld 0) [.v 0] <|
    .prim .len [.v 4] <|
    .prim (.bin .lss) [.v 3, .v 5] <|
    .ite (.v 6) (
     .prim (.fld 0) [.v 0] <|
     .prim .get [.v 7, .v 3] <|
     .prim (.fld 0) [.v 1] <|
     .prim .get [.v 9, .v 3] <|
     .call 24 F_r12_Mark [.v 8, .v 10] 1 <|
     .prim (.un .not) [.v 11] <|
     .ite (.v 12) (
      .jmp 2 false [.c (.bool false)]) (
      .prim (.bin .add) [.v 3, .c (.int .i64 1)] <|
      .jmp 0 true [.v 13])) (
     .jmp 1 false []))) 0 <|
  .jmp 0 false [.c (.bool true)])
theorem a_r12_Same : treeOf cx 12 22 = some A_r12_Same.erase := by kernel_rfl
theorem k_r12_Same : FnOk cx 12 noC 22 F_r12_Same := fn_ok (t := A_r12_Same) a_r12_Same (fun _ => rfl) (ok_of [(24, F_r12_Mark)] (by kernel_rfl) (.cons k_r12_Mark .nil)) (fun x => by kernel_rfl)

/-! 35: backstay/clock.New -/
noncomputable def clock_New (p0 : Int) (p1 : List Core) : Option (Clock × Int) :=
  let v2 : Mark := Mark.mk (0 : Int) (0 : Int) p1
  (
    (cloneO 48 (Mark.Cores v2)).bind fun v4 =>
    some ((Mark.Span v2, Mark.When v2, v4)) : Option (Int × Int × (List Core))).bind fun v3 =>
  let v7 : List Mark := ([Mark.mk v3.1 v3.2.1 v3.2.2] : List Mark)
  (clock_Right (Clock.mk v7 p0)).bind fun v9 =>
  if !v9 then
    some (((Clock.mk ([] : List Mark) (0 : Int)), (1 : Int)))
  else
    some ((Clock.mk v7 p0, (0 : Int)))
noncomputable def F_clock_New : FnT := ⟨[.int .i64, .sl tCore], [tClock, .int .i64], fun x => clock_New x.1 x.2⟩
noncomputable def A_clock_New : TA :=
 .mkS tsMark [.c (.int .i64 0), .c (.int .i64 0), .v 1] <|
 .sub0 [.int .i64, .int .i64, .sl tCore] (
  .prim (.fld 2) [.v 2] <|
  .prim (.clone 48) [.v 3] <|
  .prim (.fld 0) [.v 2] <|
  .prim (.fld 1) [.v 2] <|
  .prim (.fld 2) [.v 2] <|
  .jmp 0 false [.v 5, .v 6, .v 4]) 3 <|
 .mkS tsMark [.v 3, .v 4, .v 5] <|
 .mkL tMark [.v 6] <|
 .mkS tsClock [.v 7, .v 0] <|
 .call 38 F_clock_Right [.v 8] 1 <|
 .prim (.un .not) [.v 9] <|
 .ite (.v 10) (
  .jmp 0 false [.c (.agg [.nil, (.int .i64 0)]), .c (.int .i64 1)]) (
  .mkS tsClock [.v 7, .v 0] <|
  .jmp 0 false [.v 11, .c (.int .i64 0)])
theorem a_clock_New : treeOf cx 12 35 = some A_clock_New.erase := by kernel_rfl
theorem k_clock_New : FnOk cx 12 noC 35 F_clock_New := fn_ok (t := A_clock_New) a_clock_New (fun _ => rfl) (ok_of [(38, F_clock_Right)] (by kernel_rfl) (.cons k_clock_Right .nil)) (fun x => by kernel_rfl)

/-! 68: backstay/clock.may -/
noncomputable def clock_may (p0 : Clock) (p1 : Int) : Option Bool :=
  (
    (clock_Right p0).bind fun v2 =>
    if v2 then
      some ((clock_time p1))
    else
      some (false) : Option Bool).bind fun v2 =>
  some (v2)
noncomputable def F_clock_may : FnT := ⟨[tClock, .int .i64], [.bool], fun x => clock_may x.1 x.2⟩
noncomputable def A_clock_may : TA :=
 .sub0 [.bool] (
  .call 38 F_clock_Right [.v 0] 1 <|
  .ite (.v 2) (
   .callp 74 F_clock_time [.v 1] 1 <|
   .jmp 0 false [.v 3]) (
   .jmp 0 false [.c (.bool false)])) 1 <|
 .jmp 0 false [.v 2]
theorem a_clock_may : treeOf cx 12 68 = some A_clock_may.erase := by kernel_rfl
theorem k_clock_may : FnOk cx 12 noC 68 F_clock_may := fn_ok (t := A_clock_may) a_clock_may (fun _ => rfl) (ok_of [(38, F_clock_Right), (74, F_clock_time.fn)] (by kernel_rfl) (.cons k_clock_Right (.cons k_clock_time .nil))) (fun x => by kernel_rfl)

/-! 21: backstay/clock.Keep -/
noncomputable def clock_Keep_L1 (x2 : List Mark) (x3 : Int) (s : (Int × (List Mark))) : Option ((Int × (List Mark)) ⊕ (List Mark)) :=
  if decide (s.1 < x3) then
    (getO x2 s.1).bind fun v7 =>
    (
      (cloneO 48 (Mark.Cores v7)).bind fun v9 =>
      some ((Mark.Span v7, Mark.When v7, v9)) : Option (Int × Int × (List Core))).bind fun v8 =>
    (appO 40 s.2 ([Mark.mk v8.1 v8.2.1 v8.2.2] : List Mark)).bind fun v13 =>
    some (Sum.inl (w64 (s.1 + (1 : Int)), v13))
  else
    some (Sum.inr (s.2))
noncomputable def clock_Keep (p0 : Clock) (p1 : Int) : Option (Clock × Int) :=
  (
    let v3 : Int := (List.length (Clock.Marks p0) : Int)
    (
      loopD (clock_Keep_L1 (Clock.Marks p0) v3) ((0 : Int), ([] : List Mark)) : Option (List Mark)).bind fun v4 =>
    some ((Clock.Wait p0, v4)) : Option (Int × (List Mark))).bind fun v2 =>
  (clock_may p0 p1).bind fun v4 =>
  if !v4 then
    some ((Clock.mk v2.2 v2.1, (1 : Int)))
  else
    (clock_sure p0 p1).bind fun v6 =>
    (rngO (List.length v2.2 : Int) v6 (List.length v2.2 : Int)).bind fun v8 =>
    (subO v2.2 v6 v8).bind fun v9 =>
    some ((Clock.mk v9 v2.1, (0 : Int)))
noncomputable def F_clock_Keep : FnT := ⟨[tClock, .int .i64], [tClock, .int .i64], fun x => clock_Keep x.1 x.2⟩
noncomputable def A_clock_Keep : TA :=
 .sub0 [.int .i64, .sl tMark] (
  .prim (.fld 0) [.v 0] <|
  .prim .len [.v 2] <|
  .sub0 [.sl tMark] (
   .loop [.int .i64, .sl tMark] [.c (.int .i64 0), .c .nil] (
    .prim (.bin .lss) [.v 4, .v 3] <|
    .ite (.v 6) (
     .prim .get [.v 2, .v 4] <|
     .sub0 [.int .i64, .int .i64, .sl tCore] (
      .prim (.fld 2) [.v 7] <|
      .prim (.clone 48) [.v 8] <|
      .prim (.fld 0) [.v 7] <|
      .prim (.fld 1) [.v 7] <|
      .prim (.fld 2) [.v 7] <|
      .jmp 0 false [.v 10, .v 11, .v 9]) 3 <|
     .mkS tsMark [.v 8, .v 9, .v 10] <|
     .mkL tMark [.v 11] <|
     .prim (.app 40) [.v 5, .v 12] <|
     .prim (.bin .add) [.v 4, .c (.int .i64 1)] <|
     .jmp 0 true [.v 14, .v 13]) (
     .jmp 1 false [.v 5]))) 1 <|
  .prim (.fld 0) [.v 0] <|
  .prim (.fld 1) [.v 0] <|
  .jmp 0 false [.v 6, .v 4]) 2 <|
 .call 68 F_clock_may [.v 0, .v 1] 1 <|
 .prim (.un .not) [.v 4] <|
 .ite (.v 5) (
  .mkS tsClock [.v 3, .v 2] <|
  .jmp 0 false [.v 6, .c (.int .i64 1)]) (
  .call 69 F_clock_sure [.v 0, .v 1] 1 <|
  .prim .len [.v 3] <|
  .prim .rng [.v 3, .v 6, .v 7] <|
  .prim .sub [.v 3, .v 6, .v 8] <|
  .mkS tsClock [.v 9, .v 2] <|
  .jmp 0 false [.v 10, .c (.int .i64 0)])
theorem a_clock_Keep : treeOf cx 12 21 = some A_clock_Keep.erase := by kernel_rfl
theorem k_clock_Keep : FnOk cx 12 noC 21 F_clock_Keep := fn_ok (t := A_clock_Keep) a_clock_Keep (fun _ => rfl) (ok_of [(68, F_clock_may), (69, F_clock_sure)] (by kernel_rfl) (.cons k_clock_may (.cons k_clock_sure .nil))) (fun x => by kernel_rfl)

/-! 23: backstay/clock.Sure -/
noncomputable def clock_Sure (p0 : Clock) (p1 : Int) : Option (Mark × Int) :=
  (clock_may p0 p1).bind fun v2 =>
  if !v2 then
    some (((Mark.mk (0 : Int) (0 : Int) ([] : List Core)), (1 : Int)))
  else
    (clock_sure p0 p1).bind fun v5 =>
    (getO (Clock.Marks p0) v5).bind fun v6 =>
    (
      (cloneO 48 (Mark.Cores v6)).bind fun v8 =>
      some ((Mark.Span v6, Mark.When v6, v8)) : Option (Int × Int × (List Core))).bind fun v7 =>
    some ((Mark.mk v7.1 v7.2.1 v7.2.2, (0 : Int)))
noncomputable def F_clock_Sure : FnT := ⟨[tClock, .int .i64], [tMark, .int .i64], fun x => clock_Sure x.1 x.2⟩
noncomputable def A_clock_Sure : TA :=
 .call 68 F_clock_may [.v 0, .v 1] 1 <|
 .prim (.un .not) [.v 2] <|
 .ite (.v 3) (
  .jmp 0 false [.c (.agg [(.int .i64 0), (.int .i64 0), .nil]), .c (.int .i64 1)]) (
  .prim (.fld 0) [.v 0] <|
  .call 69 F_clock_sure [.v 0, .v 1] 1 <|
  .prim .get [.v 4, .v 5] <|
  .sub0 [.int .i64, .int .i64, .sl tCore] (
   .prim (.fld 2) [.v 6] <|
   .prim (.clone 48) [.v 7] <|
   .prim (.fld 0) [.v 6] <|
   .prim (.fld 1) [.v 6] <|
   .prim (.fld 2) [.v 6] <|
   .jmp 0 false [.v 9, .v 10, .v 8]) 3 <|
  .mkS tsMark [.v 7, .v 8, .v 9] <|
  .jmp 0 false [.v 10, .c (.int .i64 0)])
theorem a_clock_Sure : treeOf cx 12 23 = some A_clock_Sure.erase := by kernel_rfl
theorem k_clock_Sure : FnOk cx 12 noC 23 F_clock_Sure := fn_ok (t := A_clock_Sure) a_clock_Sure (fun _ => rfl) (ok_of [(68, F_clock_may), (69, F_clock_sure)] (by kernel_rfl) (.cons k_clock_may (.cons k_clock_sure .nil))) (fun x => by kernel_rfl)

/-! 36: backstay/clock.Tick -/
noncomputable def clock_Tick_L1 (x21 : List Mark) (x22 : Int) (s : (Int × (List Mark))) : Option ((Int × (List Mark)) ⊕ (List Mark)) :=
  if decide (s.1 < x22) then
    (getO x21 s.1).bind fun v26 =>
    (
      (cloneO 48 (Mark.Cores v26)).bind fun v28 =>
      some ((Mark.Span v26, Mark.When v26, v28)) : Option (Int × Int × (List Core))).bind fun v27 =>
    (appO 40 s.2 ([Mark.mk v27.1 v27.2.1 v27.2.2] : List Mark)).bind fun v32 =>
    some (Sum.inl (w64 (s.1 + (1 : Int)), v32))
  else
    some (Sum.inr (s.2))
noncomputable def clock_Tick_L2 (x4 : List Mark) (x5 : Int) (s : (Int × (List Mark))) : Option ((Int × (List Mark)) ⊕ (List Mark)) :=
  if decide (s.1 < x5) then
    (getO x4 s.1).bind fun v9 =>
    (
      (cloneO 48 (Mark.Cores v9)).bind fun v11 =>
      some ((Mark.Span v9, Mark.When v9, v11)) : Option (Int × Int × (List Core))).bind fun v10 =>
    (appO 40 s.2 ([Mark.mk v10.1 v10.2.1 v10.2.2] : List Mark)).bind fun v15 =>
    some (Sum.inl (w64 (s.1 + (1 : Int)), v15))
  else
    some (Sum.inr (s.2))
noncomputable def clock_Tick (p0 : Clock) (p1 : Int) (p2 : Int) (p3 : List Core) : Option (Clock × Int) :=
  (
    let v5 : Int := (List.length (Clock.Marks p0) : Int)
    (
      loopD (clock_Tick_L2 (Clock.Marks p0) v5) ((0 : Int), ([] : List Mark)) : Option (List Mark)).bind fun v6 =>
    some ((Clock.Wait p0, v6)) : Option (Int × (List Mark))).bind fun v4 =>
  (clock_may p0 p2).bind fun v6 =>
  if !v6 then
    some ((Clock.mk v4.2 v4.1, (1 : Int)))
  else
    if decide ((List.length (Clock.Marks p0) : Int) = (8 : Int)) then
      some ((Clock.mk v4.2 v4.1, (6 : Int)))
    else
      let v11 : Mark := Mark.mk p1 p2 p3
      (
        (cloneO 48 (Mark.Cores v11)).bind fun v13 =>
        some ((Mark.Span v11, Mark.When v11, v13)) : Option (Int × Int × (List Core))).bind fun v12 =>
      (appO 40 v4.2 ([Mark.mk v12.1 v12.2.1 v12.2.2] : List Mark)).bind fun v17 =>
      (clock_Right (Clock.mk v17 v4.1)).bind fun v19 =>
      if !v19 then
        (
          let v22 : Int := (List.length (Clock.Marks p0) : Int)
          (
            loopD (clock_Tick_L1 (Clock.Marks p0) v22) ((0 : Int), ([] : List Mark)) : Option (List Mark)).bind fun v23 =>
          some ((Clock.Wait p0, v23)) : Option (Int × (List Mark))).bind fun v21 =>
        some ((Clock.mk v21.2 v21.1, (1 : Int)))
      else
        some ((Clock.mk v17 v4.1, (0 : Int)))
noncomputable def F_clock_Tick : FnT := ⟨[tClock, .int .i64, .int .i64, .sl tCore], [tClock, .int .i64], fun x => clock_Tick x.1 x.2.1 x.2.2.1 x.2.2.2⟩
noncomputable def A_clock_Tick : TA :=
 .sub0 [.int .i64, .sl tMark] (
  .prim (.fld 0) [.v 0] <|
  .prim .len [.v 4] <|
  .sub0 [.sl tMark] (
   .loop [.int .i64, .sl tMark] [.c (.int .i64 0), .c .nil] (
    .prim (.bin .lss) [.v 6, .v 5] <|
    .ite (.v 8) (
     .prim .get [.v 4, .v 6] <|
     .sub0 [.int .i64, .int .i64, .sl tCore] (
      .prim (.fld 2) [.v 9] <|
      .prim (.clone 48) [.v 10] <|
      .prim (.fld 0) [.v 9] <|
      .prim (.fld 1) [.v 9] <|
      .prim (.fld 2) [.v 9] <|
      .jmp 0 false [.v 12, .v 13, .v 11]) 3 <|
     .mkS tsMark [.v 10, .v 11, .v 12] <|
     .mkL tMark [.v 13] <|
     .prim (.app 40) [.v 7, .v 14] <|
     .prim (.bin .add) [.v 6, .c (.int .i64 1)] <|
     .jmp 0 true [.v 16, .v 15]) (
     .jmp 1 false [.v 7]))) 1 <|
  .prim (.fld 0) [.v 0] <|
  .prim (.fld 1) [.v 0] <|
  .jmp 0 false [.v 8, .v 6]) 2 <|
 .call 68 F_clock_may [.v 0, .v 2] 1 <|
 .prim (.un .not) [.v 6] <|
 .ite (.v 7) (
  .mkS tsClock [.v 5, .v 4] <|
  .jmp 0 false [.v 8, .c (.int .i64 1)]) (
  .prim (.fld 0) [.v 0] <|
  .prim .len [.v 8] <|
  .prim (.bin .eql) [.v 9, .c (.int .i64 8)] <|
  .ite (.v 10) (
   .mkS tsClock [.v 5, .v 4] <|
   .jmp 0 false [.v 11, .c (.int .i64 6)]) (
   .mkS tsMark [.v 1, .v 2, .v 3] <|
   .sub0 [.int .i64, .int .i64, .sl tCore] (
    .prim (.fld 2) [.v 11] <|
    .prim (.clone 48) [.v 12] <|
    .prim (.fld 0) [.v 11] <|
    .prim (.fld 1) [.v 11] <|
    .prim (.fld 2) [.v 11] <|
    .jmp 0 false [.v 14, .v 15, .v 13]) 3 <|
   .mkS tsMark [.v 12, .v 13, .v 14] <|
   .mkL tMark [.v 15] <|
   .prim (.app 40) [.v 5, .v 16] <|
   .mkS tsClock [.v 17, .v 4] <|
   .call 38 F_clock_Right [.v 18] 1 <|
   .prim (.un .not) [.v 19] <|
   .ite (.v 20) (
    .sub0 [.int .i64, .sl tMark] (
     .prim (.fld 0) [.v 0] <|
     .prim .len [.v 21] <|
     .sub0 [.sl tMark] (
      .loop [.int .i64, .sl tMark] [.c (.int .i64 0), .c .nil] (
       .prim (.bin .lss) [.v 23, .v 22] <|
       .ite (.v 25) (
        .prim .get [.v 21, .v 23] <|
        .sub0 [.int .i64, .int .i64, .sl tCore] (
         .prim (.fld 2) [.v 26] <|
         .prim (.clone 48) [.v 27] <|
         .prim (.fld 0) [.v 26] <|
         .prim (.fld 1) [.v 26] <|
         .prim (.fld 2) [.v 26] <|
         .jmp 0 false [.v 29, .v 30, .v 28]) 3 <|
        .mkS tsMark [.v 27, .v 28, .v 29] <|
        .mkL tMark [.v 30] <|
        .prim (.app 40) [.v 24, .v 31] <|
        .prim (.bin .add) [.v 23, .c (.int .i64 1)] <|
        .jmp 0 true [.v 33, .v 32]) (
        .jmp 1 false [.v 24]))) 1 <|
     .prim (.fld 0) [.v 0] <|
     .prim (.fld 1) [.v 0] <|
     .jmp 0 false [.v 25, .v 23]) 2 <|
    .mkS tsClock [.v 22, .v 21] <|
    .jmp 0 false [.v 23, .c (.int .i64 1)]) (
    .mkS tsClock [.v 17, .v 4] <|
    .jmp 0 false [.v 21, .c (.int .i64 0)])))
theorem a_clock_Tick : treeOf cx 12 36 = some A_clock_Tick.erase := by kernel_rfl
theorem k_clock_Tick : FnOk cx 12 noC 36 F_clock_Tick := fn_ok (t := A_clock_Tick) a_clock_Tick (fun _ => rfl) (ok_of [(68, F_clock_may), (38, F_clock_Right)] (by kernel_rfl) (.cons k_clock_may (.cons k_clock_Right .nil))) (fun x => by kernel_rfl)

/-! 37: backstay/clock.Back -/
noncomputable def clock_Back (p0 : Clock) (p1 : Int) : Option (Clock × Mark × Int) :=
  (
    let v3 : Int := (List.length (Clock.Marks p0) : Int)
    (
      loopD (clock_Keep_L1 (Clock.Marks p0) v3) ((0 : Int), ([] : List Mark)) : Option (List Mark)).bind fun v4 =>
    some ((Clock.Wait p0, v4)) : Option (Int × (List Mark))).bind fun v2 =>
  (clock_may p0 p1).bind fun v4 =>
  if !v4 then
    some ((Clock.mk v2.2 v2.1, (Mark.mk (0 : Int) (0 : Int) ([] : List Core)), (1 : Int)))
  else
    (clock_sure p0 p1).bind fun v6 =>
    (idxO (List.length v2.2 : Int) v6).bind fun v7 =>
    (getO v2.2 v7).bind fun v8 =>
    (
      (cloneO 48 (Mark.Cores v8)).bind fun v11 =>
      some ((Mark.Span v8, Mark.When v8, v11)) : Option (Int × Int × (List Core))).bind fun v10 =>
    some ((Clock.mk ([v8] : List Mark) v2.1, Mark.mk v10.1 v10.2.1 v10.2.2, (0 : Int)))
noncomputable def F_clock_Back : FnT := ⟨[tClock, .int .i64], [tClock, tMark, .int .i64], fun x => clock_Back x.1 x.2⟩
noncomputable def A_clock_Back : TA :=
 .sub0 [.int .i64, .sl tMark] (
  .prim (.fld 0) [.v 0] <|
  .prim .len [.v 2] <|
  .sub0 [.sl tMark] (
   .loop [.int .i64, .sl tMark] [.c (.int .i64 0), .c .nil] (
    .prim (.bin .lss) [.v 4, .v 3] <|
    .ite (.v 6) (
     .prim .get [.v 2, .v 4] <|
     .sub0 [.int .i64, .int .i64, .sl tCore] (
      .prim (.fld 2) [.v 7] <|
      .prim (.clone 48) [.v 8] <|
      .prim (.fld 0) [.v 7] <|
      .prim (.fld 1) [.v 7] <|
      .prim (.fld 2) [.v 7] <|
      .jmp 0 false [.v 10, .v 11, .v 9]) 3 <|
     .mkS tsMark [.v 8, .v 9, .v 10] <|
     .mkL tMark [.v 11] <|
     .prim (.app 40) [.v 5, .v 12] <|
     .prim (.bin .add) [.v 4, .c (.int .i64 1)] <|
     .jmp 0 true [.v 14, .v 13]) (
     .jmp 1 false [.v 5]))) 1 <|
  .prim (.fld 0) [.v 0] <|
  .prim (.fld 1) [.v 0] <|
  .jmp 0 false [.v 6, .v 4]) 2 <|
 .call 68 F_clock_may [.v 0, .v 1] 1 <|
 .prim (.un .not) [.v 4] <|
 .ite (.v 5) (
  .mkS tsClock [.v 3, .v 2] <|
  .jmp 0 false [.v 6, .c (.agg [(.int .i64 0), (.int .i64 0), .nil]), .c (.int .i64 1)]) (
  .call 69 F_clock_sure [.v 0, .v 1] 1 <|
  .prim .idx [.v 3, .v 6] <|
  .prim .get [.v 3, .v 7] <|
  .mkL tMark [.v 8] <|
  .sub0 [.int .i64, .int .i64, .sl tCore] (
   .prim (.fld 2) [.v 8] <|
   .prim (.clone 48) [.v 10] <|
   .prim (.fld 0) [.v 8] <|
   .prim (.fld 1) [.v 8] <|
   .prim (.fld 2) [.v 8] <|
   .jmp 0 false [.v 12, .v 13, .v 11]) 3 <|
  .mkS tsClock [.v 9, .v 2] <|
  .mkS tsMark [.v 10, .v 11, .v 12] <|
  .jmp 0 false [.v 13, .v 14, .c (.int .i64 0)])
theorem a_clock_Back : treeOf cx 12 37 = some A_clock_Back.erase := by kernel_rfl
theorem k_clock_Back : FnOk cx 12 noC 37 F_clock_Back := fn_ok (t := A_clock_Back) a_clock_Back (fun _ => rfl) (ok_of [(68, F_clock_may), (69, F_clock_sure)] (by kernel_rfl) (.cons k_clock_may (.cons k_clock_sure .nil))) (fun x => by kernel_rfl)

/-! 19: backstay/backstaylaw12.awake -/
def l12_awake : Bool := true
def F_l12_awake : PnT := ⟨[], [.bool], fun _ => l12_awake⟩
theorem k_l12_awake : FnOk cx 12 noC 19 F_l12_awake.fn := fun ds x r hx hr => by
  have hx : ds = [] := hx
  subst hx
  exact ⟨[.bool true], call_now 100 12 (by kernel_rfl), .bool true, rfl, congrArg D.bool (Option.some.inj hr)⟩

end Go.Proofs.Ytklkpogdghiagaa
