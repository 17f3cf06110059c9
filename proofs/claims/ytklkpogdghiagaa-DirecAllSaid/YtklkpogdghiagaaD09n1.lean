/- The types of this cut, and its functions as functions of plain typed data. Printed by a program of this claim's prover; each is checked here to be what the executor makes of the code. -/
import Derived.Test.YtklkpogdghiagaaProg
import Derived.Test.YtklkpogdghiagaaLim
import Derived.KernelRfl
set_option linter.unusedVariables false
set_option maxRecDepth 100000
namespace Go.Proofs.Ytklkpogdghiagaa
open Go.SX
abbrev tsl11_Do : List Ty := [.int .u8, .int .u8, .int .u8, .int .u32]
abbrev tl11_Do : Ty := .st tsl11_Do
abbrev l11_Do : Type := Int × Int × Int × Int
def l11_Do.mk (Kind : Int) (At : Int) (To : Int) (Val : Int) : l11_Do := (Kind, At, To, Val)
def l11_Do.Kind (x : l11_Do) : Int := x.1
def l11_Do.At (x : l11_Do) : Int := x.2.1
def l11_Do.To (x : l11_Do) : Int := x.2.2.1
def l11_Do.Val (x : l11_Do) : Int := x.2.2.2
def l11_Do.setKind (x : l11_Do) (v : Int) : l11_Do := (v, x.2.1, x.2.2.1, x.2.2.2)
def l11_Do.setAt (x : l11_Do) (v : Int) : l11_Do := (x.1, v, x.2.2.1, x.2.2.2)
def l11_Do.setTo (x : l11_Do) (v : Int) : l11_Do := (x.1, x.2.1, v, x.2.2.2)
def l11_Do.setVal (x : l11_Do) (v : Int) : l11_Do := (x.1, x.2.1, x.2.2.1, v)
@[simp] theorem l11_Do.Kind_mk (Kind : Int) (At : Int) (To : Int) (Val : Int) : l11_Do.Kind (l11_Do.mk Kind At To Val) = Kind := rfl
@[simp] theorem l11_Do.At_mk (Kind : Int) (At : Int) (To : Int) (Val : Int) : l11_Do.At (l11_Do.mk Kind At To Val) = At := rfl
@[simp] theorem l11_Do.To_mk (Kind : Int) (At : Int) (To : Int) (Val : Int) : l11_Do.To (l11_Do.mk Kind At To Val) = To := rfl
@[simp] theorem l11_Do.Val_mk (Kind : Int) (At : Int) (To : Int) (Val : Int) : l11_Do.Val (l11_Do.mk Kind At To Val) = Val := rfl
@[simp] theorem l11_Do.setKind_eq (x : l11_Do) (v : Int) : l11_Do.setKind x v = l11_Do.mk v (l11_Do.At x) (l11_Do.To x) (l11_Do.Val x) := rfl
@[simp] theorem l11_Do.setAt_eq (x : l11_Do) (v : Int) : l11_Do.setAt x v = l11_Do.mk (l11_Do.Kind x) v (l11_Do.To x) (l11_Do.Val x) := rfl
@[simp] theorem l11_Do.setTo_eq (x : l11_Do) (v : Int) : l11_Do.setTo x v = l11_Do.mk (l11_Do.Kind x) (l11_Do.At x) v (l11_Do.Val x) := rfl
@[simp] theorem l11_Do.setVal_eq (x : l11_Do) (v : Int) : l11_Do.setVal x v = l11_Do.mk (l11_Do.Kind x) (l11_Do.At x) (l11_Do.To x) v := rfl
@[simp] theorem l11_Do.eta (x : l11_Do) : l11_Do.mk (l11_Do.Kind x) (l11_Do.At x) (l11_Do.To x) (l11_Do.Val x) = x := rfl

abbrev tsruntime_boundsError : List Ty := [.int .i64, .int .i64, .bool, .int .u8]
abbrev truntime_boundsError : Ty := .st tsruntime_boundsError
abbrev runtime_boundsError : Type := Int × Int × Bool × Int
def runtime_boundsError.mk (x : Int) (y : Int) (signed : Bool) (code : Int) : runtime_boundsError := (x, y, signed, code)
def runtime_boundsError.x (x : runtime_boundsError) : Int := x.1
def runtime_boundsError.y (x : runtime_boundsError) : Int := x.2.1
def runtime_boundsError.signed (x : runtime_boundsError) : Bool := x.2.2.1
def runtime_boundsError.code (x : runtime_boundsError) : Int := x.2.2.2
def runtime_boundsError.setx (x : runtime_boundsError) (v : Int) : runtime_boundsError := (v, x.2.1, x.2.2.1, x.2.2.2)
def runtime_boundsError.sety (x : runtime_boundsError) (v : Int) : runtime_boundsError := (x.1, v, x.2.2.1, x.2.2.2)
def runtime_boundsError.setsigned (x : runtime_boundsError) (v : Bool) : runtime_boundsError := (x.1, x.2.1, v, x.2.2.2)
def runtime_boundsError.setcode (x : runtime_boundsError) (v : Int) : runtime_boundsError := (x.1, x.2.1, x.2.2.1, v)
@[simp] theorem runtime_boundsError.x_mk (x : Int) (y : Int) (signed : Bool) (code : Int) : runtime_boundsError.x (runtime_boundsError.mk x y signed code) = x := rfl
@[simp] theorem runtime_boundsError.y_mk (x : Int) (y : Int) (signed : Bool) (code : Int) : runtime_boundsError.y (runtime_boundsError.mk x y signed code) = y := rfl
@[simp] theorem runtime_boundsError.signed_mk (x : Int) (y : Int) (signed : Bool) (code : Int) : runtime_boundsError.signed (runtime_boundsError.mk x y signed code) = signed := rfl
@[simp] theorem runtime_boundsError.code_mk (x : Int) (y : Int) (signed : Bool) (code : Int) : runtime_boundsError.code (runtime_boundsError.mk x y signed code) = code := rfl
@[simp] theorem runtime_boundsError.setx_eq (x : runtime_boundsError) (v : Int) : runtime_boundsError.setx x v = runtime_boundsError.mk v (runtime_boundsError.y x) (runtime_boundsError.signed x) (runtime_boundsError.code x) := rfl
@[simp] theorem runtime_boundsError.sety_eq (x : runtime_boundsError) (v : Int) : runtime_boundsError.sety x v = runtime_boundsError.mk (runtime_boundsError.x x) v (runtime_boundsError.signed x) (runtime_boundsError.code x) := rfl
@[simp] theorem runtime_boundsError.setsigned_eq (x : runtime_boundsError) (v : Bool) : runtime_boundsError.setsigned x v = runtime_boundsError.mk (runtime_boundsError.x x) (runtime_boundsError.y x) v (runtime_boundsError.code x) := rfl
@[simp] theorem runtime_boundsError.setcode_eq (x : runtime_boundsError) (v : Int) : runtime_boundsError.setcode x v = runtime_boundsError.mk (runtime_boundsError.x x) (runtime_boundsError.y x) (runtime_boundsError.signed x) v := rfl
@[simp] theorem runtime_boundsError.eta (x : runtime_boundsError) : runtime_boundsError.mk (runtime_boundsError.x x) (runtime_boundsError.y x) (runtime_boundsError.signed x) (runtime_boundsError.code x) = x := rfl

abbrev tsMsg : List Ty := [.int .i64, .int .i64, .int .i64, .int .i64, .int .i64, .int .i64, .bool, .int .u32, .int .u32]
abbrev tMsg : Ty := .st tsMsg
abbrev Msg : Type := Int × Int × Int × Int × Int × Int × Bool × Int × Int
def Msg.mk (Kind : Int) (From : Int) (To : Int) (Line : Int) (For : Int) (Acks : Int) (Own : Bool) (Num : Int) (Val : Int) : Msg := (Kind, From, To, Line, For, Acks, Own, Num, Val)
def Msg.Kind (x : Msg) : Int := x.1
def Msg.From (x : Msg) : Int := x.2.1
def Msg.To (x : Msg) : Int := x.2.2.1
def Msg.Line (x : Msg) : Int := x.2.2.2.1
def Msg.For (x : Msg) : Int := x.2.2.2.2.1
def Msg.Acks (x : Msg) : Int := x.2.2.2.2.2.1
def Msg.Own (x : Msg) : Bool := x.2.2.2.2.2.2.1
def Msg.Num (x : Msg) : Int := x.2.2.2.2.2.2.2.1
def Msg.Val (x : Msg) : Int := x.2.2.2.2.2.2.2.2
def Msg.setKind (x : Msg) (v : Int) : Msg := (v, x.2.1, x.2.2.1, x.2.2.2.1, x.2.2.2.2.1, x.2.2.2.2.2.1, x.2.2.2.2.2.2.1, x.2.2.2.2.2.2.2.1, x.2.2.2.2.2.2.2.2)
def Msg.setFrom (x : Msg) (v : Int) : Msg := (x.1, v, x.2.2.1, x.2.2.2.1, x.2.2.2.2.1, x.2.2.2.2.2.1, x.2.2.2.2.2.2.1, x.2.2.2.2.2.2.2.1, x.2.2.2.2.2.2.2.2)
def Msg.setTo (x : Msg) (v : Int) : Msg := (x.1, x.2.1, v, x.2.2.2.1, x.2.2.2.2.1, x.2.2.2.2.2.1, x.2.2.2.2.2.2.1, x.2.2.2.2.2.2.2.1, x.2.2.2.2.2.2.2.2)
def Msg.setLine (x : Msg) (v : Int) : Msg := (x.1, x.2.1, x.2.2.1, v, x.2.2.2.2.1, x.2.2.2.2.2.1, x.2.2.2.2.2.2.1, x.2.2.2.2.2.2.2.1, x.2.2.2.2.2.2.2.2)
def Msg.setFor (x : Msg) (v : Int) : Msg := (x.1, x.2.1, x.2.2.1, x.2.2.2.1, v, x.2.2.2.2.2.1, x.2.2.2.2.2.2.1, x.2.2.2.2.2.2.2.1, x.2.2.2.2.2.2.2.2)
def Msg.setAcks (x : Msg) (v : Int) : Msg := (x.1, x.2.1, x.2.2.1, x.2.2.2.1, x.2.2.2.2.1, v, x.2.2.2.2.2.2.1, x.2.2.2.2.2.2.2.1, x.2.2.2.2.2.2.2.2)
def Msg.setOwn (x : Msg) (v : Bool) : Msg := (x.1, x.2.1, x.2.2.1, x.2.2.2.1, x.2.2.2.2.1, x.2.2.2.2.2.1, v, x.2.2.2.2.2.2.2.1, x.2.2.2.2.2.2.2.2)
def Msg.setNum (x : Msg) (v : Int) : Msg := (x.1, x.2.1, x.2.2.1, x.2.2.2.1, x.2.2.2.2.1, x.2.2.2.2.2.1, x.2.2.2.2.2.2.1, v, x.2.2.2.2.2.2.2.2)
def Msg.setVal (x : Msg) (v : Int) : Msg := (x.1, x.2.1, x.2.2.1, x.2.2.2.1, x.2.2.2.2.1, x.2.2.2.2.2.1, x.2.2.2.2.2.2.1, x.2.2.2.2.2.2.2.1, v)
@[simp] theorem Msg.Kind_mk (Kind : Int) (From : Int) (To : Int) (Line : Int) (For : Int) (Acks : Int) (Own : Bool) (Num : Int) (Val : Int) : Msg.Kind (Msg.mk Kind From To Line For Acks Own Num Val) = Kind := rfl
@[simp] theorem Msg.From_mk (Kind : Int) (From : Int) (To : Int) (Line : Int) (For : Int) (Acks : Int) (Own : Bool) (Num : Int) (Val : Int) : Msg.From (Msg.mk Kind From To Line For Acks Own Num Val) = From := rfl
@[simp] theorem Msg.To_mk (Kind : Int) (From : Int) (To : Int) (Line : Int) (For : Int) (Acks : Int) (Own : Bool) (Num : Int) (Val : Int) : Msg.To (Msg.mk Kind From To Line For Acks Own Num Val) = To := rfl
@[simp] theorem Msg.Line_mk (Kind : Int) (From : Int) (To : Int) (Line : Int) (For : Int) (Acks : Int) (Own : Bool) (Num : Int) (Val : Int) : Msg.Line (Msg.mk Kind From To Line For Acks Own Num Val) = Line := rfl
@[simp] theorem Msg.For_mk (Kind : Int) (From : Int) (To : Int) (Line : Int) (For : Int) (Acks : Int) (Own : Bool) (Num : Int) (Val : Int) : Msg.For (Msg.mk Kind From To Line For Acks Own Num Val) = For := rfl
@[simp] theorem Msg.Acks_mk (Kind : Int) (From : Int) (To : Int) (Line : Int) (For : Int) (Acks : Int) (Own : Bool) (Num : Int) (Val : Int) : Msg.Acks (Msg.mk Kind From To Line For Acks Own Num Val) = Acks := rfl
@[simp] theorem Msg.Own_mk (Kind : Int) (From : Int) (To : Int) (Line : Int) (For : Int) (Acks : Int) (Own : Bool) (Num : Int) (Val : Int) : Msg.Own (Msg.mk Kind From To Line For Acks Own Num Val) = Own := rfl
@[simp] theorem Msg.Num_mk (Kind : Int) (From : Int) (To : Int) (Line : Int) (For : Int) (Acks : Int) (Own : Bool) (Num : Int) (Val : Int) : Msg.Num (Msg.mk Kind From To Line For Acks Own Num Val) = Num := rfl
@[simp] theorem Msg.Val_mk (Kind : Int) (From : Int) (To : Int) (Line : Int) (For : Int) (Acks : Int) (Own : Bool) (Num : Int) (Val : Int) : Msg.Val (Msg.mk Kind From To Line For Acks Own Num Val) = Val := rfl
@[simp] theorem Msg.setKind_eq (x : Msg) (v : Int) : Msg.setKind x v = Msg.mk v (Msg.From x) (Msg.To x) (Msg.Line x) (Msg.For x) (Msg.Acks x) (Msg.Own x) (Msg.Num x) (Msg.Val x) := rfl
@[simp] theorem Msg.setFrom_eq (x : Msg) (v : Int) : Msg.setFrom x v = Msg.mk (Msg.Kind x) v (Msg.To x) (Msg.Line x) (Msg.For x) (Msg.Acks x) (Msg.Own x) (Msg.Num x) (Msg.Val x) := rfl
@[simp] theorem Msg.setTo_eq (x : Msg) (v : Int) : Msg.setTo x v = Msg.mk (Msg.Kind x) (Msg.From x) v (Msg.Line x) (Msg.For x) (Msg.Acks x) (Msg.Own x) (Msg.Num x) (Msg.Val x) := rfl
@[simp] theorem Msg.setLine_eq (x : Msg) (v : Int) : Msg.setLine x v = Msg.mk (Msg.Kind x) (Msg.From x) (Msg.To x) v (Msg.For x) (Msg.Acks x) (Msg.Own x) (Msg.Num x) (Msg.Val x) := rfl
@[simp] theorem Msg.setFor_eq (x : Msg) (v : Int) : Msg.setFor x v = Msg.mk (Msg.Kind x) (Msg.From x) (Msg.To x) (Msg.Line x) v (Msg.Acks x) (Msg.Own x) (Msg.Num x) (Msg.Val x) := rfl
@[simp] theorem Msg.setAcks_eq (x : Msg) (v : Int) : Msg.setAcks x v = Msg.mk (Msg.Kind x) (Msg.From x) (Msg.To x) (Msg.Line x) (Msg.For x) v (Msg.Own x) (Msg.Num x) (Msg.Val x) := rfl
@[simp] theorem Msg.setOwn_eq (x : Msg) (v : Bool) : Msg.setOwn x v = Msg.mk (Msg.Kind x) (Msg.From x) (Msg.To x) (Msg.Line x) (Msg.For x) (Msg.Acks x) v (Msg.Num x) (Msg.Val x) := rfl
@[simp] theorem Msg.setNum_eq (x : Msg) (v : Int) : Msg.setNum x v = Msg.mk (Msg.Kind x) (Msg.From x) (Msg.To x) (Msg.Line x) (Msg.For x) (Msg.Acks x) (Msg.Own x) v (Msg.Val x) := rfl
@[simp] theorem Msg.setVal_eq (x : Msg) (v : Int) : Msg.setVal x v = Msg.mk (Msg.Kind x) (Msg.From x) (Msg.To x) (Msg.Line x) (Msg.For x) (Msg.Acks x) (Msg.Own x) (Msg.Num x) v := rfl
@[simp] theorem Msg.eta (x : Msg) : Msg.mk (Msg.Kind x) (Msg.From x) (Msg.To x) (Msg.Line x) (Msg.For x) (Msg.Acks x) (Msg.Own x) (Msg.Num x) (Msg.Val x) = x := rfl

abbrev tsUndo : List Ty := [.int .i64, .int .i64, .int .u32]
abbrev tUndo : Ty := .st tsUndo
abbrev Undo : Type := Int × Int × Int
def Undo.mk (Span : Int) (At : Int) (Val : Int) : Undo := (Span, At, Val)
def Undo.Span (x : Undo) : Int := x.1
def Undo.At (x : Undo) : Int := x.2.1
def Undo.Val (x : Undo) : Int := x.2.2
def Undo.setSpan (x : Undo) (v : Int) : Undo := (v, x.2.1, x.2.2)
def Undo.setAt (x : Undo) (v : Int) : Undo := (x.1, v, x.2.2)
def Undo.setVal (x : Undo) (v : Int) : Undo := (x.1, x.2.1, v)
@[simp] theorem Undo.Span_mk (Span : Int) (At : Int) (Val : Int) : Undo.Span (Undo.mk Span At Val) = Span := rfl
@[simp] theorem Undo.At_mk (Span : Int) (At : Int) (Val : Int) : Undo.At (Undo.mk Span At Val) = At := rfl
@[simp] theorem Undo.Val_mk (Span : Int) (At : Int) (Val : Int) : Undo.Val (Undo.mk Span At Val) = Val := rfl
@[simp] theorem Undo.setSpan_eq (x : Undo) (v : Int) : Undo.setSpan x v = Undo.mk v (Undo.At x) (Undo.Val x) := rfl
@[simp] theorem Undo.setAt_eq (x : Undo) (v : Int) : Undo.setAt x v = Undo.mk (Undo.Span x) v (Undo.Val x) := rfl
@[simp] theorem Undo.setVal_eq (x : Undo) (v : Int) : Undo.setVal x v = Undo.mk (Undo.Span x) (Undo.At x) v := rfl
@[simp] theorem Undo.eta (x : Undo) : Undo.mk (Undo.Span x) (Undo.At x) (Undo.Val x) = x := rfl

abbrev tsruntime_errorAddressString : List Ty := [.str, .int .u64]
abbrev truntime_errorAddressString : Ty := .st tsruntime_errorAddressString
abbrev runtime_errorAddressString : Type := (List Int) × Int
def runtime_errorAddressString.mk (msg : List Int) (addr : Int) : runtime_errorAddressString := (msg, addr)
def runtime_errorAddressString.msg (x : runtime_errorAddressString) : List Int := x.1
def runtime_errorAddressString.addr (x : runtime_errorAddressString) : Int := x.2
def runtime_errorAddressString.setmsg (x : runtime_errorAddressString) (v : List Int) : runtime_errorAddressString := (v, x.2)
def runtime_errorAddressString.setaddr (x : runtime_errorAddressString) (v : Int) : runtime_errorAddressString := (x.1, v)
@[simp] theorem runtime_errorAddressString.msg_mk (msg : List Int) (addr : Int) : runtime_errorAddressString.msg (runtime_errorAddressString.mk msg addr) = msg := rfl
@[simp] theorem runtime_errorAddressString.addr_mk (msg : List Int) (addr : Int) : runtime_errorAddressString.addr (runtime_errorAddressString.mk msg addr) = addr := rfl
@[simp] theorem runtime_errorAddressString.setmsg_eq (x : runtime_errorAddressString) (v : List Int) : runtime_errorAddressString.setmsg x v = runtime_errorAddressString.mk v (runtime_errorAddressString.addr x) := rfl
@[simp] theorem runtime_errorAddressString.setaddr_eq (x : runtime_errorAddressString) (v : Int) : runtime_errorAddressString.setaddr x v = runtime_errorAddressString.mk (runtime_errorAddressString.msg x) v := rfl
@[simp] theorem runtime_errorAddressString.eta (x : runtime_errorAddressString) : runtime_errorAddressString.mk (runtime_errorAddressString.msg x) (runtime_errorAddressString.addr x) = x := rfl

abbrev tsl12_Do : List Ty := [.int .u8, .int .u8]
abbrev tl12_Do : Ty := .st tsl12_Do
abbrev l12_Do : Type := Int × Int
def l12_Do.mk (Kind : Int) (More : Int) : l12_Do := (Kind, More)
def l12_Do.Kind (x : l12_Do) : Int := x.1
def l12_Do.More (x : l12_Do) : Int := x.2
def l12_Do.setKind (x : l12_Do) (v : Int) : l12_Do := (v, x.2)
def l12_Do.setMore (x : l12_Do) (v : Int) : l12_Do := (x.1, v)
@[simp] theorem l12_Do.Kind_mk (Kind : Int) (More : Int) : l12_Do.Kind (l12_Do.mk Kind More) = Kind := rfl
@[simp] theorem l12_Do.More_mk (Kind : Int) (More : Int) : l12_Do.More (l12_Do.mk Kind More) = More := rfl
@[simp] theorem l12_Do.setKind_eq (x : l12_Do) (v : Int) : l12_Do.setKind x v = l12_Do.mk v (l12_Do.More x) := rfl
@[simp] theorem l12_Do.setMore_eq (x : l12_Do) (v : Int) : l12_Do.setMore x v = l12_Do.mk (l12_Do.Kind x) v := rfl
@[simp] theorem l12_Do.eta (x : l12_Do) : l12_Do.mk (l12_Do.Kind x) (l12_Do.More x) = x := rfl

abbrev tsEntry : List Ty := [.int .i64, .sl .bool]
abbrev tEntry : Ty := .st tsEntry
abbrev Entry : Type := Int × (List Bool)
def Entry.mk (Owner : Int) (Share : List Bool) : Entry := (Owner, Share)
def Entry.Owner (x : Entry) : Int := x.1
def Entry.Share (x : Entry) : List Bool := x.2
def Entry.setOwner (x : Entry) (v : Int) : Entry := (v, x.2)
def Entry.setShare (x : Entry) (v : List Bool) : Entry := (x.1, v)
@[simp] theorem Entry.Owner_mk (Owner : Int) (Share : List Bool) : Entry.Owner (Entry.mk Owner Share) = Owner := rfl
@[simp] theorem Entry.Share_mk (Owner : Int) (Share : List Bool) : Entry.Share (Entry.mk Owner Share) = Share := rfl
@[simp] theorem Entry.setOwner_eq (x : Entry) (v : Int) : Entry.setOwner x v = Entry.mk v (Entry.Share x) := rfl
@[simp] theorem Entry.setShare_eq (x : Entry) (v : List Bool) : Entry.setShare x v = Entry.mk (Entry.Owner x) v := rfl
@[simp] theorem Entry.eta (x : Entry) : Entry.mk (Entry.Owner x) (Entry.Share x) = x := rfl

abbrev tsCore : List Ty := [.arr 8 (.int .u32), .int .i64, .bool]
abbrev tCore : Ty := .st tsCore
abbrev Core : Type := (List Int) × Int × Bool
def Core.mk (Regs : List Int) (PC : Int) (Halted : Bool) : Core := (Regs, PC, Halted)
def Core.Regs (x : Core) : List Int := x.1
def Core.PC (x : Core) : Int := x.2.1
def Core.Halted (x : Core) : Bool := x.2.2
def Core.setRegs (x : Core) (v : List Int) : Core := (v, x.2.1, x.2.2)
def Core.setPC (x : Core) (v : Int) : Core := (x.1, v, x.2.2)
def Core.setHalted (x : Core) (v : Bool) : Core := (x.1, x.2.1, v)
@[simp] theorem Core.Regs_mk (Regs : List Int) (PC : Int) (Halted : Bool) : Core.Regs (Core.mk Regs PC Halted) = Regs := rfl
@[simp] theorem Core.PC_mk (Regs : List Int) (PC : Int) (Halted : Bool) : Core.PC (Core.mk Regs PC Halted) = PC := rfl
@[simp] theorem Core.Halted_mk (Regs : List Int) (PC : Int) (Halted : Bool) : Core.Halted (Core.mk Regs PC Halted) = Halted := rfl
@[simp] theorem Core.setRegs_eq (x : Core) (v : List Int) : Core.setRegs x v = Core.mk v (Core.PC x) (Core.Halted x) := rfl
@[simp] theorem Core.setPC_eq (x : Core) (v : Int) : Core.setPC x v = Core.mk (Core.Regs x) v (Core.Halted x) := rfl
@[simp] theorem Core.setHalted_eq (x : Core) (v : Bool) : Core.setHalted x v = Core.mk (Core.Regs x) (Core.PC x) v := rfl
@[simp] theorem Core.eta (x : Core) : Core.mk (Core.Regs x) (Core.PC x) (Core.Halted x) = x := rfl

abbrev tsLog : List Ty := [.sl (.int .u32), .int .i64, .sl tUndo]
abbrev tLog : Ty := .st tsLog
abbrev Log : Type := (List Int) × Int × (List Undo)
def Log.mk (Mem : List Int) (Span : Int) (Lst : List Undo) : Log := (Mem, Span, Lst)
def Log.Mem (x : Log) : List Int := x.1
def Log.Span (x : Log) : Int := x.2.1
def Log.Lst (x : Log) : List Undo := x.2.2
def Log.setMem (x : Log) (v : List Int) : Log := (v, x.2.1, x.2.2)
def Log.setSpan (x : Log) (v : Int) : Log := (x.1, v, x.2.2)
def Log.setLst (x : Log) (v : List Undo) : Log := (x.1, x.2.1, v)
@[simp] theorem Log.Mem_mk (Mem : List Int) (Span : Int) (Lst : List Undo) : Log.Mem (Log.mk Mem Span Lst) = Mem := rfl
@[simp] theorem Log.Span_mk (Mem : List Int) (Span : Int) (Lst : List Undo) : Log.Span (Log.mk Mem Span Lst) = Span := rfl
@[simp] theorem Log.Lst_mk (Mem : List Int) (Span : Int) (Lst : List Undo) : Log.Lst (Log.mk Mem Span Lst) = Lst := rfl
@[simp] theorem Log.setMem_eq (x : Log) (v : List Int) : Log.setMem x v = Log.mk v (Log.Span x) (Log.Lst x) := rfl
@[simp] theorem Log.setSpan_eq (x : Log) (v : Int) : Log.setSpan x v = Log.mk (Log.Mem x) v (Log.Lst x) := rfl
@[simp] theorem Log.setLst_eq (x : Log) (v : List Undo) : Log.setLst x v = Log.mk (Log.Mem x) (Log.Span x) v := rfl
@[simp] theorem Log.eta (x : Log) : Log.mk (Log.Mem x) (Log.Span x) (Log.Lst x) = x := rfl

abbrev tsMark : List Ty := [.int .i64, .int .i64, .sl tCore]
abbrev tMark : Ty := .st tsMark
abbrev Mark : Type := Int × Int × (List Core)
def Mark.mk (Span : Int) (When : Int) (Cores : List Core) : Mark := (Span, When, Cores)
def Mark.Span (x : Mark) : Int := x.1
def Mark.When (x : Mark) : Int := x.2.1
def Mark.Cores (x : Mark) : List Core := x.2.2
def Mark.setSpan (x : Mark) (v : Int) : Mark := (v, x.2.1, x.2.2)
def Mark.setWhen (x : Mark) (v : Int) : Mark := (x.1, v, x.2.2)
def Mark.setCores (x : Mark) (v : List Core) : Mark := (x.1, x.2.1, v)
@[simp] theorem Mark.Span_mk (Span : Int) (When : Int) (Cores : List Core) : Mark.Span (Mark.mk Span When Cores) = Span := rfl
@[simp] theorem Mark.When_mk (Span : Int) (When : Int) (Cores : List Core) : Mark.When (Mark.mk Span When Cores) = When := rfl
@[simp] theorem Mark.Cores_mk (Span : Int) (When : Int) (Cores : List Core) : Mark.Cores (Mark.mk Span When Cores) = Cores := rfl
@[simp] theorem Mark.setSpan_eq (x : Mark) (v : Int) : Mark.setSpan x v = Mark.mk v (Mark.When x) (Mark.Cores x) := rfl
@[simp] theorem Mark.setWhen_eq (x : Mark) (v : Int) : Mark.setWhen x v = Mark.mk (Mark.Span x) v (Mark.Cores x) := rfl
@[simp] theorem Mark.setCores_eq (x : Mark) (v : List Core) : Mark.setCores x v = Mark.mk (Mark.Span x) (Mark.When x) v := rfl
@[simp] theorem Mark.eta (x : Mark) : Mark.mk (Mark.Span x) (Mark.When x) (Mark.Cores x) = x := rfl

abbrev tsClock : List Ty := [.sl tMark, .int .i64]
abbrev tClock : Ty := .st tsClock
abbrev Clock : Type := (List Mark) × Int
def Clock.mk (Marks : List Mark) (Wait : Int) : Clock := (Marks, Wait)
def Clock.Marks (x : Clock) : List Mark := x.1
def Clock.Wait (x : Clock) : Int := x.2
def Clock.setMarks (x : Clock) (v : List Mark) : Clock := (v, x.2)
def Clock.setWait (x : Clock) (v : Int) : Clock := (x.1, v)
@[simp] theorem Clock.Marks_mk (Marks : List Mark) (Wait : Int) : Clock.Marks (Clock.mk Marks Wait) = Marks := rfl
@[simp] theorem Clock.Wait_mk (Marks : List Mark) (Wait : Int) : Clock.Wait (Clock.mk Marks Wait) = Wait := rfl
@[simp] theorem Clock.setMarks_eq (x : Clock) (v : List Mark) : Clock.setMarks x v = Clock.mk v (Clock.Wait x) := rfl
@[simp] theorem Clock.setWait_eq (x : Clock) (v : Int) : Clock.setWait x v = Clock.mk (Clock.Marks x) v := rfl
@[simp] theorem Clock.eta (x : Clock) : Clock.mk (Clock.Marks x) (Clock.Wait x) = x := rfl

def tys : List Ty := [.no, .no, .int .i64, .int .i64, .bool, .int .u8, .int .u8, truntime_boundsError, truntime_boundsError, .str, .str, .str, .int .u64, truntime_errorAddressString, truntime_errorAddressString, .no, .no, .no, .no, .no, .no, .int .i32, .sl (.int .u8), .no, .sl .bool, tEntry, tEntry, .int .i64, .no, .no, .no, .no, .sl (.int .i64), .no, .no, .no, .no, .sl tMark, tClock, tClock, .int .u16, .no, .no, .no, .no, .sl tCore, tMark, tMark, .no, .no, .no, .no, .no, .no, .no, .no, .no, .no, .no, .no, .no, .no, .no, .no, .no, .no, .sl tl12_Do, .no, tl12_Do, tl12_Do, .no, .no, .no, .no, .sl (.int .u32), .sl tUndo, tLog, tLog, .no, .no, .no, .no, .int .u32, tUndo, tUndo, .no, .no, .no, tMsg, tMsg, .no, .no, .no, .no, .no, .no, .no, .no, .no, .no, .no, .int .u64, .no, .no, .no, .no, .no, .no, .no, .no, .no, .sl tl11_Do, .sl (.sl (.int .u32)), tl11_Do, tl11_Do, .no, .no, .no, .no, .arr 8 (.int .u32), tCore, tCore, .no, .no, .no, .no, .no, .no, .no, .no, .no, .no, .no, .no, .no, .no, .no, .arr 5 (.int .i64), .no, .no, .no, .arr 2 (.int .i64), .no, .no, .no, .no, .no, .no, .no, .arr 4 (.int .u8), .no, .sl (.sl (.int .u8)), .no, .no, .no, .no, .no, .no, .no, .no, .int .u8, .int .u8, .no, .no, .int .i32, .int .i32, .no, .no, .no]
noncomputable def cx : Cx := { P := Try.prog, ty := tys, own := [], inl := [63, 65, 67, 70, 75, 90, 92, 93, 94, 96, 99], keepL := [], absL := [46, 47, 63, 67, 75, 79], heads := [(3, [(12, 173981965375407209150748613680919807338569801158, ⟨16, 0, mkSlots 158 0 [(1, .d (.sl (.int .u8)) (.v 1)), (2, .d (.int .u8) (.v 2)), (6, .d .bool (.c (.bool false))), (7, .d (.int .i64) (.v 7)), (8, .p tEntry tEntry 0 []), (10, .d (.int .i64) (.v 12)), (11, .h .bool 1 none), (12, .d (.int .i64) (.v 13))], [.box tEntry (.d tEntry (.v 14)), .row .bool (.v 15)]⟩),
    (21, 173981965375407209111599218008068494500487367872, ⟨23, 0, mkSlots 158 0 [(6, .d .bool (.c (.bool false))), (7, .d (.int .i64) (.v 7)), (10, .d (.int .i64) (.v 12)), (11, .h .bool 0 none), (17, .d (.int .i64) (.v 16)), (18, .p tEntry tEntry 1 []), (19, .d (.int .i64) (.v 18)), (20, .d (.sl (.int .i64)) (.v 19)), (21, .d (.int .i64) (.v 20)), (22, .d (.int .i64) (.v 21)), (23, .d (.int .i64) (.v 22))], [.row .bool (.v 14), .box tEntry (.d tEntry (.v 17))]⟩)]),
  (6, [(10, 441691533070735025245633934037470491557315817492817887534489416855716210, ⟨12, 0, mkSlots 248 0 [(1, .d (.sl (.int .u8)) (.v 1)), (4, .d .bool (.c (.bool false))), (5, .d (.int .i64) (.v 6)), (6, .p tEntry tEntry 0 []), (8, .d (.int .i64) (.v 10))], [.box tEntry (.d tEntry (.v 11))]⟩),
    (24, 441691533070735025245633934037470491557315817492817887534489416855725426, ⟨25, 0, mkSlots 248 0 [(1, .d (.sl (.int .u8)) (.v 1)), (4, .d .bool (.c (.bool false))), (5, .d (.int .i64) (.v 6)), (6, .p tEntry tEntry 0 []), (8, .d (.int .i64) (.v 10)), (10, .p tEntry tEntry 1 []), (13, .d (.int .i64) (.v 24))], [.box tEntry (.d tEntry (.v 11)), .box tEntry (.d tEntry (.v 20))]⟩),
    (26, 441691533070735025245633934037470491557315817492817887534489416856585074, ⟨28, 0, mkSlots 248 0 [(1, .d (.sl (.int .u8)) (.v 1)), (4, .d .bool (.c (.bool false))), (5, .d (.int .i64) (.v 6)), (6, .p tEntry tEntry 0 []), (8, .d (.int .i64) (.v 10)), (9, .d (.int .i64) (.v 16)), (14, .p tEntry tEntry 1 []), (16, .d (.sl (.int .i64)) (.v 23)), (18, .d (.int .i64) (.v 26)), (19, .d (.int .i64) (.v 27))], [.box tEntry (.d tEntry (.v 11)), .box tEntry (.d tEntry (.v 21))]⟩),
    (27, 441691533070735025245633934037470491557315817492817887534489416857109362, ⟨28, 0, mkSlots 248 0 [(1, .d (.sl (.int .u8)) (.v 1)), (4, .d .bool (.c (.bool false))), (5, .d (.int .i64) (.v 6)), (6, .p tEntry tEntry 0 []), (8, .d (.int .i64) (.v 10)), (9, .d (.int .i64) (.v 16)), (14, .p tEntry tEntry 1 []), (16, .d (.sl (.int .i64)) (.v 23)), (18, .d (.int .i64) (.v 26)), (20, .d (.int .i64) (.v 27))], [.box tEntry (.d tEntry (.v 11)), .box tEntry (.d tEntry (.v 21))]⟩)])] }
theorem tyOk : TysOk cx := chkTys_ok (by kernel_rfl)
theorem mixed : Try.prog.follows .mixedOrders = true := by kernel_rfl
def noC : FuncId → List D → Option (List D) := fun _ _ => none
theorem noC_ok : CallsOk cx noC := fun _ _ _ _ _ _ _ h => by cases h
theorem call_now {f : FuncId} {ds rs : List D} (k d : Nat) (h : callF cx k 12 noC d f ds = some rs) : callL cx 12 noC f ds = some rs := (callL_some cx 12 noC).2 ⟨k, d, h⟩

/-! 15: backstay/direc.New -/
noncomputable def direc_New (p0 : Int) : Option (Entry × Int) :=
  if (decide (p0 < (1 : Int))) || (decide ((4 : Int) < p0)) then
    some (((Entry.mk (0 : Int) ([] : List Bool)), (1 : Int)))
  else
    (repO false 1 p0 p0).bind fun v2 =>
    some ((Entry.mk (0 : Int) v2, (0 : Int)))
noncomputable def F_direc_New : FnT := ⟨[.int .i64], [tEntry, .int .i64], fun x => direc_New x⟩
noncomputable def A_direc_New : TA :=
 .subp [.bool] (
  .prim (.bin .lss) [.v 0, .c (.int .i64 1)] <|
  .ite (.v 1) (
   .jmp 0 false [.c (.bool true)]) (
   .prim (.bin .gtr) [.v 0, .c (.int .i64 4)] <|
   .jmp 0 false [.v 2])) 1 <|
 .ite (.v 1) (
  .jmp 0 false [.c (.agg [(.int .i64 0), .nil]), .c (.int .i64 1)]) (
  .primH (.rep (.bool false) 1) (.sl .bool) [.v 0, .v 0] <|
  .mkS tsEntry [.c (.int .i64 0), .v 2] <|
  .jmp 0 false [.v 3, .c (.int .i64 0)])
theorem a_direc_New : treeOf cx 12 15 = some A_direc_New.erase := by kernel_rfl
theorem k_direc_New : FnOk cx 12 noC 15 F_direc_New := fn_ok (t := A_direc_New) a_direc_New (fun _ => rfl) (ok_of [] (by kernel_rfl) .nil) (fun x => by kernel_rfl)

/-! 26: backstay/backstayref09.Same -/
noncomputable def r09_Same_L1 (x0 : Entry) (x1 : Entry) (s : Int) : Option (Int ⊕ Unit ⊕ Bool) :=
  if decide (s < (List.length (Entry.Share x0) : Int)) then
    (getO (Entry.Share x0) s).bind fun v8 =>
    (getO (Entry.Share x1) s).bind fun v10 =>
    if !decide (v8 = v10) then
      some (Sum.inr (Sum.inr (false)))
    else
      some (Sum.inl (w64 (s + (1 : Int))))
  else
    some (Sum.inr (Sum.inl ()))
noncomputable def r09_Same (p0 : Entry) (p1 : Entry) : Option Bool :=
  if (!decide ((Entry.Owner p0) = (Entry.Owner p1))) || (!decide ((List.length (Entry.Share p0) : Int) = (List.length (Entry.Share p1) : Int))) then
    some (false)
  else
    orExit (
      loopD (r09_Same_L1 p0 p1) (0 : Int) : Option (Unit ⊕ Bool)) fun v3 =>
    some (true)
noncomputable def F_r09_Same : FnT := ⟨[tEntry, tEntry], [.bool], fun x => r09_Same x.1 x.2⟩
noncomputable def A_r09_Same : TA :=
 .subp [.bool] (
  .prim (.fld 0) [.v 0] <|
  .prim (.fld 0) [.v 1] <|
  .prim (.bin .neq) [.v 2, .v 3] <|
  .ite (.v 4) (
   .jmp 0 false [.c (.bool true)]) (
   .prim (.fld 1) [.v 0] <|
   .prim .len [.v 5] <|
   .prim (.fld 1) [.v 1] <|
   .prim .len [.v 7] <|
   .prim (.bin .neq) [.v 6, .v 8] <|
   .jmp 0 false [.v 9])) 1 <|
 .ite (.v 2) (
  .jmp 0 false [.c (.bool false)]) (
  .sub1 [] (
   .loop [.int .i64] [.c (.int .i64 0)] (
    .prim (.fld 1) [.v 0] <|
    .prim .len [.v 4] <|
    .prim (.bin .lss) [.v 3, .v 5] <|
    .ite (.v 6) (
     .prim (.fld 1) [.v 0] <|
     .prim .get [.v 7, .v 3] <|
     .prim (.fld 1) [.v 1] <|
     .prim .get [.v 9, .v 3] <|
     .prim (.bin .neq) [.v 8, .v 10] <|
     .ite (.v 11) (
      .jmp 2 false [.c (.bool false)]) (
      .prim (.bin .add) [.v 3, .c (.int .i64 1)] <|
      .jmp 0 true [.v 12])) (
     .jmp 1 false []))) 0 <|
  .jmp 0 false [.c (.bool true)])
theorem a_r09_Same : treeOf cx 12 26 = some A_r09_Same.erase := by kernel_rfl
theorem k_r09_Same : FnOk cx 12 noC 26 F_r09_Same := fn_ok (t := A_r09_Same) a_r09_Same (fun _ => rfl) (ok_of [] (by kernel_rfl) .nil) (fun x => by kernel_rfl)

/-! 28: backstay/backstayref09.Ints -/
noncomputable def r09_Ints_L1 (x0 : List Int) (x1 : List Int) (s : Int) : Option (Int ⊕ Unit ⊕ Bool) :=
  if decide (s < (List.length x0 : Int)) then
    (getO x0 s).bind fun v8 =>
    (getO x1 s).bind fun v9 =>
    if !decide (v8 = v9) then
      some (Sum.inr (Sum.inr (false)))
    else
      some (Sum.inl (w64 (s + (1 : Int))))
  else
    some (Sum.inr (Sum.inl ()))
noncomputable def r09_Ints (p0 : List Int) (p1 : List Int) : Option Bool :=
  if !decide ((List.length p0 : Int) = (List.length p1 : Int)) then
    some (false)
  else
    orExit (
      loopD (r09_Ints_L1 p0 p1) (0 : Int) : Option (Unit ⊕ Bool)) fun v5 =>
    some (true)
noncomputable def F_r09_Ints : FnT := ⟨[.sl (.int .i64), .sl (.int .i64)], [.bool], fun x => r09_Ints x.1 x.2⟩
noncomputable def A_r09_Ints : TA :=
 .prim .len [.v 0] <|
 .prim .len [.v 1] <|
 .prim (.bin .neq) [.v 2, .v 3] <|
 .ite (.v 4) (
  .jmp 0 false [.c (.bool false)]) (
  .sub1 [] (
   .loop [.int .i64] [.c (.int .i64 0)] (
    .prim .len [.v 0] <|
    .prim (.bin .lss) [.v 5, .v 6] <|
    .ite (.v 7) (
     .prim .get [.v 0, .v 5] <|
     .prim .get [.v 1, .v 5] <|
     .prim (.bin .neq) [.v 8, .v 9] <|
     .ite (.v 10) (
      .jmp 2 false [.c (.bool false)]) (
      .prim (.bin .add) [.v 5, .c (.int .i64 1)] <|
      .jmp 0 true [.v 11])) (
     .jmp 1 false []))) 0 <|
  .jmp 0 false [.c (.bool true)])
theorem a_r09_Ints : treeOf cx 12 28 = some A_r09_Ints.erase := by kernel_rfl
theorem k_r09_Ints : FnOk cx 12 noC 28 F_r09_Ints := fn_ok (t := A_r09_Ints) a_r09_Ints (fun _ => rfl) (ok_of [] (by kernel_rfl) .nil) (fun x => by kernel_rfl)

/-! 31: backstay/backstayref09.New -/
noncomputable def r09_New (p0 : Int) : Option (Entry × Int) :=
  if (decide (p0 < (1 : Int))) || (decide ((4 : Int) < p0)) then
    some (((Entry.mk (0 : Int) ([] : List Bool)), (1 : Int)))
  else
    (repO false 1 p0 p0).bind fun v2 =>
    some ((Entry.mk (0 : Int) v2, (0 : Int)))
noncomputable def F_r09_New : FnT := ⟨[.int .i64], [tEntry, .int .i64], fun x => r09_New x⟩
noncomputable def A_r09_New : TA :=
 .subp [.bool] (
  .prim (.bin .lss) [.v 0, .c (.int .i64 1)] <|
  .ite (.v 1) (
   .jmp 0 false [.c (.bool true)]) (
   .prim (.bin .gtr) [.v 0, .c (.int .i64 4)] <|
   .jmp 0 false [.v 2])) 1 <|
 .ite (.v 1) (
  .jmp 0 false [.c (.agg [(.int .i64 0), .nil]), .c (.int .i64 1)]) (
  .primH (.rep (.bool false) 1) (.sl .bool) [.v 0, .v 0] <|
  .mkS tsEntry [.c (.int .i64 0), .v 2] <|
  .jmp 0 false [.v 3, .c (.int .i64 0)])
theorem a_r09_New : treeOf cx 12 31 = some A_r09_New.erase := by kernel_rfl
theorem k_r09_New : FnOk cx 12 noC 31 F_r09_New := fn_ok (t := A_r09_New) a_r09_New (fun _ => rfl) (ok_of [] (by kernel_rfl) .nil) (fun x => by kernel_rfl)

/-! 32: backstay/backstayref09.May -/
noncomputable def r09_May_L1 (x0 : Entry) (x1 : Int) (s : Int) : Option (Int ⊕ Unit ⊕ Bool) :=
  if decide (s < x1) then
    (
      (getO (Entry.Share x0) s).bind fun v6 =>
      if v6 then
        some ((decide ((Entry.Owner x0) = (w64 (s + (1 : Int))))))
      else
        some (false) : Option Bool).bind fun v5 =>
    if v5 then
      some (Sum.inr (Sum.inr (false)))
    else
      some (Sum.inl (w64 (s + (1 : Int))))
  else
    some (Sum.inr (Sum.inl ()))
noncomputable def r09_May (p0 : Entry) (p1 : Int) : Option Bool :=
  if (decide (p1 < (1 : Int))) || ((decide ((4 : Int) < p1)) || ((!decide ((List.length (Entry.Share p0) : Int) = p1)) || ((decide ((Entry.Owner p0) < (0 : Int))) || (decide (p1 < (Entry.Owner p0)))))) then
    some (false)
  else
    orExit (
      loopD (r09_May_L1 p0 p1) (0 : Int) : Option (Unit ⊕ Bool)) fun v3 =>
    some (true)
noncomputable def F_r09_May : FnT := ⟨[tEntry, .int .i64], [.bool], fun x => r09_May x.1 x.2⟩
noncomputable def A_r09_May : TA :=
 .subp [.bool] (
  .prim (.bin .lss) [.v 1, .c (.int .i64 1)] <|
  .ite (.v 2) (
   .jmp 0 false [.c (.bool true)]) (
   .prim (.bin .gtr) [.v 1, .c (.int .i64 4)] <|
   .ite (.v 3) (
    .jmp 0 false [.c (.bool true)]) (
    .prim (.fld 1) [.v 0] <|
    .prim .len [.v 4] <|
    .prim (.bin .neq) [.v 5, .v 1] <|
    .ite (.v 6) (
     .jmp 0 false [.c (.bool true)]) (
     .prim (.fld 0) [.v 0] <|
     .prim (.bin .lss) [.v 7, .c (.int .i64 0)] <|
     .ite (.v 8) (
      .jmp 0 false [.c (.bool true)]) (
      .prim (.fld 0) [.v 0] <|
      .prim (.bin .gtr) [.v 9, .v 1] <|
      .jmp 0 false [.v 10]))))) 1 <|
 .ite (.v 2) (
  .jmp 0 false [.c (.bool false)]) (
  .sub1 [] (
   .loop [.int .i64] [.c (.int .i64 0)] (
    .prim (.bin .lss) [.v 3, .v 1] <|
    .ite (.v 4) (
     .sub0 [.bool] (
      .prim (.fld 1) [.v 0] <|
      .prim .get [.v 5, .v 3] <|
      .ite (.v 6) (
       .prim (.fld 0) [.v 0] <|
       .prim (.bin .add) [.v 3, .c (.int .i64 1)] <|
       .prim (.bin .eql) [.v 7, .v 8] <|
       .jmp 0 false [.v 9]) (
       .jmp 0 false [.c (.bool false)])) 1 <|
     .ite (.v 5) (
      .jmp 2 false [.c (.bool false)]) (
      .prim (.bin .add) [.v 3, .c (.int .i64 1)] <|
      .jmp 0 true [.v 6])) (
     .jmp 1 false []))) 0 <|
  .jmp 0 false [.c (.bool true)])
theorem a_r09_May : treeOf cx 12 32 = some A_r09_May.erase := by kernel_rfl
theorem k_r09_May : FnOk cx 12 noC 32 F_r09_May := fn_ok (t := A_r09_May) a_r09_May (fun _ => rfl) (ok_of [] (by kernel_rfl) .nil) (fun x => by kernel_rfl)

/-! 33: backstay/backstayref09.Others -/
noncomputable def r09_Others_L1 (x0 : Entry) (x1 : Int) (s : (Int × (List Int))) : Option ((Int × (List Int)) ⊕ (List Int)) :=
  if decide (s.1 < (List.length (Entry.Share x0) : Int)) then
    (
      (getO (Entry.Share x0) s.1).bind fun v8 =>
      if v8 then
        some ((!decide (s.1 = x1)))
      else
        some (false) : Option Bool).bind fun v7 =>
    (
      if v7 then
        (appO 8 s.2 ([s.1] : List Int)).bind fun v9 =>
        some (v9)
      else
        some (s.2) : Option (List Int)).bind fun v8 =>
    some (Sum.inl (w64 (s.1 + (1 : Int)), v8))
  else
    some (Sum.inr (s.2))
noncomputable def r09_Others (p0 : Entry) (p1 : Int) : Option (List Int) :=
  (
    loopD (r09_Others_L1 p0 p1) ((0 : Int), ([] : List Int)) : Option (List Int)).bind fun v2 =>
  some (v2)
noncomputable def F_r09_Others : FnT := ⟨[tEntry, .int .i64], [.sl (.int .i64)], fun x => r09_Others x.1 x.2⟩
noncomputable def A_r09_Others : TA :=
 .sub0 [.sl (.int .i64)] (
  .loop [.int .i64, .sl (.int .i64)] [.c (.int .i64 0), .c .nil] (
   .prim (.fld 1) [.v 0] <|
   .prim .len [.v 4] <|
   .prim (.bin .lss) [.v 2, .v 5] <|
   .ite (.v 6) (
    .sub0 [.bool] (
     .prim (.fld 1) [.v 0] <|
     .prim .get [.v 7, .v 2] <|
     .ite (.v 8) (
      .prim (.bin .neq) [.v 2, .v 1] <|
      .jmp 0 false [.v 9]) (
      .jmp 0 false [.c (.bool false)])) 1 <|
    .sub0 [.sl (.int .i64)] (
     .ite (.v 7) (
      .mkL (.int .i64) [.v 2] <|
      .prim (.app 8) [.v 3, .v 8] <|
      .jmp 0 false [.v 9]) (
      .jmp 0 false [.v 3])) 1 <|
    .prim (.bin .add) [.v 2, .c (.int .i64 1)] <|
    .jmp 0 true [.v 9, .v 8]) (
    .jmp 1 false [.v 3]))) 1 <|
 .jmp 0 false [.v 2]
theorem a_r09_Others : treeOf cx 12 33 = some A_r09_Others.erase := by kernel_rfl
theorem k_r09_Others : FnOk cx 12 noC 33 F_r09_Others := fn_ok (t := A_r09_Others) a_r09_Others (fun _ => rfl) (ok_of [] (by kernel_rfl) .nil) (fun x => by kernel_rfl)

/-! 34: backstay/direc.May -/
noncomputable def direc_May (p0 : Entry) (p1 : Int) : Option Bool :=
  if (decide (p1 < (1 : Int))) || ((decide ((4 : Int) < p1)) || ((!decide ((List.length (Entry.Share p0) : Int) = p1)) || ((decide ((Entry.Owner p0) < (0 : Int))) || (decide (p1 < (Entry.Owner p0)))))) then
    some (false)
  else
    (
      if decide ((Entry.Owner p0) = (0 : Int)) then
        some (true)
      else
        (getO (Entry.Share p0) (w64 ((Entry.Owner p0) - (1 : Int)))).bind fun v8 =>
        some ((!v8)) : Option Bool).bind fun v3 =>
    some (v3)
noncomputable def F_direc_May : FnT := ⟨[tEntry, .int .i64], [.bool], fun x => direc_May x.1 x.2⟩
noncomputable def A_direc_May : TA :=
 .subp [.bool] (
  .prim (.bin .lss) [.v 1, .c (.int .i64 1)] <|
  .ite (.v 2) (
   .jmp 0 false [.c (.bool true)]) (
   .prim (.bin .gtr) [.v 1, .c (.int .i64 4)] <|
   .ite (.v 3) (
    .jmp 0 false [.c (.bool true)]) (
    .prim (.fld 1) [.v 0] <|
    .prim .len [.v 4] <|
    .prim (.bin .neq) [.v 5, .v 1] <|
    .ite (.v 6) (
     .jmp 0 false [.c (.bool true)]) (
     .prim (.fld 0) [.v 0] <|
     .prim (.bin .lss) [.v 7, .c (.int .i64 0)] <|
     .ite (.v 8) (
      .jmp 0 false [.c (.bool true)]) (
      .prim (.fld 0) [.v 0] <|
      .prim (.bin .gtr) [.v 9, .v 1] <|
      .jmp 0 false [.v 10]))))) 1 <|
 .ite (.v 2) (
  .jmp 0 false [.c (.bool false)]) (
  .sub0 [.bool] (
   .prim (.fld 0) [.v 0] <|
   .prim (.bin .eql) [.v 3, .c (.int .i64 0)] <|
   .ite (.v 4) (
    .jmp 0 false [.c (.bool true)]) (
    .prim (.fld 1) [.v 0] <|
    .prim (.fld 0) [.v 0] <|
    .prim (.bin .sub) [.v 6, .c (.int .i64 1)] <|
    .prim .get [.v 5, .v 7] <|
    .prim (.un .not) [.v 8] <|
    .jmp 0 false [.v 9])) 1 <|
  .jmp 0 false [.v 3])
theorem a_direc_May : treeOf cx 12 34 = some A_direc_May.erase := by kernel_rfl
theorem k_direc_May : FnOk cx 12 noC 34 F_direc_May := fn_ok (t := A_direc_May) a_direc_May (fun _ => rfl) (ok_of [] (by kernel_rfl) .nil) (fun x => by kernel_rfl)

/-! 73: backstay/backstayref09.set -/
noncomputable def r09_set (p0 : List Bool) (p1 : Int) (p2 : Bool) : Option (List Bool) :=
  (appO 1 ([] : List Bool) p0).bind fun v3 =>
  (idxO (List.length v3 : Int) p1).bind fun v4 =>
  (setO v3 v4 p2).bind fun v5 =>
  some (v5)
noncomputable def F_r09_set : FnT := ⟨[.sl .bool, .int .i64, .bool], [.sl .bool], fun x => r09_set x.1 x.2.1 x.2.2⟩
noncomputable def A_r09_set : TA :=
 .primH (.app 1) (.sl .bool) [.c (.sl []), .v 0] <|
 .prim .idx [.v 3, .v 1] <|
 .prim .set [.v 3, .v 4, .v 2] <|
 .jmp 0 false [.v 5]
theorem a_r09_set : treeOf cx 12 73 = some A_r09_set.erase := by kernel_rfl
theorem k_r09_set : FnOk cx 12 noC 73 F_r09_set := fn_ok (t := A_r09_set) a_r09_set (fun _ => rfl) (ok_of [] (by kernel_rfl) .nil) (fun x => by kernel_rfl)

/-! 91: slices.Index[[]bool,bool] -/
noncomputable def slices_Index_bool_bool_L1 (x0 : List Bool) (x1 : Bool) (x2 : Int) (s : Int) : Option (Int ⊕ Unit ⊕ Int) :=
  if decide (s < x2) then
    (getO x0 s).bind fun v5 =>
    if decide (x1 = v5) then
      some (Sum.inr (Sum.inr (s)))
    else
      some (Sum.inl (w64 (s + (1 : Int))))
  else
    some (Sum.inr (Sum.inl ()))
noncomputable def slices_Index_bool_bool (p0 : List Bool) (p1 : Bool) : Option Int :=
  let v2 : Int := (List.length p0 : Int)
  orExit (
    loopD (slices_Index_bool_bool_L1 p0 p1 v2) (0 : Int) : Option (Unit ⊕ Int)) fun v3 =>
  some ((-1 : Int))
noncomputable def F_slices_Index_bool_bool : FnT := ⟨[.sl .bool, .bool], [.int .i64], fun x => slices_Index_bool_bool x.1 x.2⟩
noncomputable def A_slices_Index_bool_bool : TA :=
 .prim .len [.v 0] <|
 .sub1 [] (
  .loop [.int .i64] [.c (.int .i64 0)] (
   .prim (.bin .lss) [.v 3, .v 2] <|
   .ite (.v 4) (
    .prim .get [.v 0, .v 3] <|
    .prim (.bin .eql) [.v 1, .v 5] <|
    .ite (.v 6) (
     .jmp 2 false [.v 3]) (
     .prim (.bin .add) [.v 3, .c (.int .i64 1)] <|
     .jmp 0 true [.v 7])) (
    .jmp 1 false []))) 0 <|
 .jmp 0 false [.c (.int .i64 (-1))]
theorem a_slices_Index_bool_bool : treeOf cx 12 91 = some A_slices_Index_bool_bool.erase := by kernel_rfl
theorem k_slices_Index_bool_bool : FnOk cx 12 noC 91 F_slices_Index_bool_bool := fn_ok (t := A_slices_Index_bool_bool) a_slices_Index_bool_bool (fun _ => rfl) (ok_of [] (by kernel_rfl) .nil) (fun x => by kernel_rfl)

/-! 64: backstay/direc.has -/
noncomputable def direc_has (p0 : Entry) (p1 : Int) : Option Bool :=
  (
    (direc_May p0 (List.length (Entry.Share p0) : Int)).bind fun v4 =>
    if v4 then
      if decide ((0 : Int) ≤ p1) then
        some ((decide (p1 < (List.length (Entry.Share p0) : Int))))
      else
        some (false)
    else
      some (false) : Option Bool).bind fun v2 =>
  some (v2)
noncomputable def F_direc_has : FnT := ⟨[tEntry, .int .i64], [.bool], fun x => direc_has x.1 x.2⟩
noncomputable def A_direc_has : TA :=
 .sub0 [.bool] (
  .prim (.fld 1) [.v 0] <|
  .prim .len [.v 2] <|
  .call 34 F_direc_May [.v 0, .v 3] 1 <|
  .ite (.v 4) (
   .prim (.bin .geq) [.v 1, .c (.int .i64 0)] <|
   .ite (.v 5) (
    .prim (.fld 1) [.v 0] <|
    .prim .len [.v 6] <|
    .prim (.bin .lss) [.v 1, .v 7] <|
    .jmp 0 false [.v 8]) (
    .jmp 0 false [.c (.bool false)])) (
   .jmp 0 false [.c (.bool false)])) 1 <|
 .jmp 0 false [.v 2]
theorem a_direc_has : treeOf cx 12 64 = some A_direc_has.erase := by kernel_rfl
theorem k_direc_has : FnOk cx 12 noC 64 F_direc_has := fn_ok (t := A_direc_has) a_direc_has (fun _ => rfl) (ok_of [(34, F_direc_May)] (by kernel_rfl) (.cons k_direc_May .nil)) (fun x => by kernel_rfl)

/-! 66: slices.Contains[[]bool,bool] -/
noncomputable def slices_Contains_bool_bool (p0 : List Bool) (p1 : Bool) : Option Bool :=
  (slices_Index_bool_bool p0 p1).bind fun v2 =>
  some ((decide ((0 : Int) ≤ v2)))
noncomputable def F_slices_Contains_bool_bool : FnT := ⟨[.sl .bool, .bool], [.bool], fun x => slices_Contains_bool_bool x.1 x.2⟩
noncomputable def A_slices_Contains_bool_bool : TA :=
 .call 91 F_slices_Index_bool_bool [.v 0, .v 1] 1 <|
 .prim (.bin .geq) [.v 2, .c (.int .i64 0)] <|
 .jmp 0 false [.v 3]
theorem a_slices_Contains_bool_bool : treeOf cx 12 66 = some A_slices_Contains_bool_bool.erase := by kernel_rfl
theorem k_slices_Contains_bool_bool : FnOk cx 12 noC 66 F_slices_Contains_bool_bool := fn_ok (t := A_slices_Contains_bool_bool) a_slices_Contains_bool_bool (fun _ => rfl) (ok_of [(91, F_slices_Index_bool_bool)] (by kernel_rfl) (.cons k_slices_Index_bool_bool .nil)) (fun x => by kernel_rfl)

/-! 72: backstay/backstayref09.has -/
noncomputable def r09_has (p0 : Entry) (p1 : Int) : Option Bool :=
  (
    (r09_May p0 (List.length (Entry.Share p0) : Int)).bind fun v4 =>
    if v4 then
      if decide ((0 : Int) ≤ p1) then
        some ((decide (p1 < (List.length (Entry.Share p0) : Int))))
      else
        some (false)
    else
      some (false) : Option Bool).bind fun v2 =>
  some (v2)
noncomputable def F_r09_has : FnT := ⟨[tEntry, .int .i64], [.bool], fun x => r09_has x.1 x.2⟩
noncomputable def A_r09_has : TA :=
 .sub0 [.bool] (
  .prim (.fld 1) [.v 0] <|
  .prim .len [.v 2] <|
  .call 32 F_r09_May [.v 0, .v 3] 1 <|
  .ite (.v 4) (
   .prim (.bin .geq) [.v 1, .c (.int .i64 0)] <|
   .ite (.v 5) (
    .prim (.fld 1) [.v 0] <|
    .prim .len [.v 6] <|
    .prim (.bin .lss) [.v 1, .v 7] <|
    .jmp 0 false [.v 8]) (
    .jmp 0 false [.c (.bool false)])) (
   .jmp 0 false [.c (.bool false)])) 1 <|
 .jmp 0 false [.v 2]
theorem a_r09_has : treeOf cx 12 72 = some A_r09_has.erase := by kernel_rfl
theorem k_r09_has : FnOk cx 12 noC 72 F_r09_has := fn_ok (t := A_r09_has) a_r09_has (fun _ => rfl) (ok_of [(32, F_r09_May)] (by kernel_rfl) (.cons k_r09_May .nil)) (fun x => by kernel_rfl)

/-! 16: backstay/direc.Read -/
noncomputable def direc_Read_L1 (x1 : Int) (x3 : List Bool) (x8 : Int) (s : (Int × (List Int))) : Option ((Int × (List Int)) ⊕ (List Int)) :=
  if decide (s.1 < x8) then
    (idxO (List.length x3 : Int) s.1).bind fun v12 =>
    (getO x3 v12).bind fun v13 =>
    (
      if v13 && (!decide (s.1 = x1)) then
        (appO 8 s.2 ([s.1] : List Int)).bind fun v16 =>
        some (v16)
      else
        some (s.2) : Option (List Int)).bind fun v15 =>
    some (Sum.inl (w64 (s.1 + (1 : Int)), v15))
  else
    some (Sum.inr (s.2))
noncomputable def direc_Read (p0 : Entry) (p1 : Int) : Option (Entry × Int × Int) :=
  (
    (cloneO 1 (Entry.Share p0)).bind fun v3 =>
    some ((Entry.Owner p0, v3)) : Option (Int × (List Bool))).bind fun v2 =>
  (direc_has (Entry.mk v2.1 v2.2) p1).bind fun v5 =>
  if !v5 then
    some ((Entry.mk v2.1 v2.2, (0 : Int), (1 : Int)))
  else
    (
      if decide (v2.1 = (0 : Int)) then
        (
          let v8 : Int := (List.length v2.2 : Int)
          (
            loopD (direc_Read_L1 p1 v2.2 v8) ((0 : Int), ([] : List Int)) : Option (List Int)).bind fun v9 =>
          some (v9) : Option (List Int)).bind fun v8 =>
        some ((decide ((List.length v8 : Int) = (0 : Int))))
      else
        some (false) : Option Bool).bind fun v7 =>
    (
      if v7 then
        (idxO (List.length v2.2 : Int) p1).bind fun v9 =>
        (setO v2.2 v9 false).bind fun v10 =>
        some ((w64 (p1 + (1 : Int)), v10))
      else
        (
          if !decide (v2.1 = (w64 (p1 + (1 : Int)))) then
            (idxO (List.length v2.2 : Int) p1).bind fun v10 =>
            (setO v2.2 v10 true).bind fun v11 =>
            some (v11)
          else
            some (v2.2) : Option (List Bool)).bind fun v10 =>
        some ((v2.1, v10)) : Option (Int × (List Bool))).bind fun v8 =>
    some ((Entry.mk v8.1 v8.2, v2.1, (0 : Int)))
noncomputable def F_direc_Read : FnT := ⟨[tEntry, .int .i64], [tEntry, .int .i64, .int .i64], fun x => direc_Read x.1 x.2⟩
noncomputable def A_direc_Read : TA :=
 .sub0 [.int .i64, .sl .bool] (
  .prim (.fld 1) [.v 0] <|
  .clone 3 1 .bool (.v 2) <|
  .prim (.fld 0) [.v 0] <|
  .prim (.fld 1) [.v 0] <|
  .jmp 0 false [.v 4, .v 3]) 2 <|
 .mkS tsEntry [.v 2, .v 3] <|
 .call 64 F_direc_has [.v 4, .v 1] 1 <|
 .prim (.un .not) [.v 5] <|
 .ite (.v 6) (
  .mkS tsEntry [.v 2, .v 3] <|
  .jmp 0 false [.v 7, .c (.int .i64 0), .c (.int .i64 1)]) (
  .sub0 [.bool] (
   .prim (.bin .eql) [.v 2, .c (.int .i64 0)] <|
   .ite (.v 7) (
    .sub0 [.sl (.int .i64)] (
     .prim .len [.v 3] <|
     .sub0 [.sl (.int .i64)] (
      .loop [.int .i64, .sl (.int .i64)] [.c (.int .i64 0), .c .nil] (
       .prim (.bin .lss) [.v 9, .v 8] <|
       .ite (.v 11) (
        .prim .idx [.v 3, .v 9] <|
        .prim .get [.v 3, .v 12] <|
        .subp [.bool] (
         .ite (.v 13) (
          .prim (.bin .neq) [.v 9, .v 1] <|
          .jmp 0 false [.v 14]) (
          .jmp 0 false [.c (.bool false)])) 1 <|
        .sub0 [.sl (.int .i64)] (
         .ite (.v 14) (
          .mkL (.int .i64) [.v 9] <|
          .prim (.app 8) [.v 10, .v 15] <|
          .jmp 0 false [.v 16]) (
          .jmp 0 false [.v 10])) 1 <|
        .prim (.bin .add) [.v 9, .c (.int .i64 1)] <|
        .jmp 0 true [.v 16, .v 15]) (
        .jmp 1 false [.v 10]))) 1 <|
     .jmp 0 false [.v 9]) 1 <|
    .prim .len [.v 8] <|
    .prim (.bin .eql) [.v 9, .c (.int .i64 0)] <|
    .jmp 0 false [.v 10]) (
    .jmp 0 false [.c (.bool false)])) 1 <|
  .sub0 [.int .i64, .sl .bool] (
   .ite (.v 7) (
    .prim (.bin .add) [.v 1, .c (.int .i64 1)] <|
    .prim .idx [.v 3, .v 1] <|
    .prim .set [.v 3, .v 9, .c (.bool false)] <|
    .jmp 0 false [.v 8, .v 10]) (
    .prim (.bin .add) [.v 1, .c (.int .i64 1)] <|
    .prim (.bin .neq) [.v 2, .v 8] <|
    .sub0 [.sl .bool] (
     .ite (.v 9) (
      .prim .idx [.v 3, .v 1] <|
      .prim .set [.v 3, .v 10, .c (.bool true)] <|
      .jmp 0 false [.v 11]) (
      .jmp 0 false [.v 3])) 1 <|
    .jmp 0 false [.v 2, .v 10])) 2 <|
  .mkS tsEntry [.v 8, .v 9] <|
  .jmp 0 false [.v 10, .v 2, .c (.int .i64 0)])
theorem a_direc_Read : treeOf cx 12 16 = some A_direc_Read.erase := by kernel_rfl
theorem k_direc_Read : FnOk cx 12 noC 16 F_direc_Read := fn_ok (t := A_direc_Read) a_direc_Read (fun _ => rfl) (ok_of [(64, F_direc_has)] (by kernel_rfl) (.cons k_direc_has .nil)) (fun x => by kernel_rfl)

/-! 17: backstay/direc.Write -/
noncomputable def direc_Write_L1 (x1 : Int) (x3 : List Bool) (x7 : Int) (s : (Int × (List Int))) : Option ((Int × (List Int)) ⊕ (List Int)) :=
  if decide (s.1 < x7) then
    (idxO (List.length x3 : Int) s.1).bind fun v11 =>
    (getO x3 v11).bind fun v12 =>
    (
      if v12 && (!decide (s.1 = x1)) then
        (appO 8 s.2 ([s.1] : List Int)).bind fun v15 =>
        some (v15)
      else
        some (s.2) : Option (List Int)).bind fun v14 =>
    some (Sum.inl (w64 (s.1 + (1 : Int)), v14))
  else
    some (Sum.inr (s.2))
noncomputable def direc_Write (p0 : Entry) (p1 : Int) : Option (Entry × Int × (List Int) × Int) :=
  (
    (cloneO 1 (Entry.Share p0)).bind fun v3 =>
    some ((Entry.Owner p0, v3)) : Option (Int × (List Bool))).bind fun v2 =>
  (direc_has (Entry.mk v2.1 v2.2) p1).bind fun v5 =>
  if !v5 then
    some ((Entry.mk v2.1 v2.2, (0 : Int), ([] : List Int), (1 : Int)))
  else
    (
      let v7 : Int := (List.length v2.2 : Int)
      (
        loopD (direc_Write_L1 p1 v2.2 v7) ((0 : Int), ([] : List Int)) : Option (List Int)).bind fun v8 =>
      some (v8) : Option (List Int)).bind fun v7 =>
    some ((Entry.mk (w64 (p1 + (1 : Int))) (List.replicate (List.length v2.2) false), v2.1, v7, (0 : Int)))
noncomputable def F_direc_Write : FnT := ⟨[tEntry, .int .i64], [tEntry, .int .i64, .sl (.int .i64), .int .i64], fun x => direc_Write x.1 x.2⟩
noncomputable def A_direc_Write : TA :=
 .sub0 [.int .i64, .sl .bool] (
  .prim (.fld 1) [.v 0] <|
  .clone 3 1 .bool (.v 2) <|
  .prim (.fld 0) [.v 0] <|
  .prim (.fld 1) [.v 0] <|
  .jmp 0 false [.v 4, .v 3]) 2 <|
 .mkS tsEntry [.v 2, .v 3] <|
 .call 64 F_direc_has [.v 4, .v 1] 1 <|
 .prim (.un .not) [.v 5] <|
 .ite (.v 6) (
  .mkS tsEntry [.v 2, .v 3] <|
  .jmp 0 false [.v 7, .c (.int .i64 0), .c .nil, .c (.int .i64 1)]) (
  .sub0 [.sl (.int .i64)] (
   .prim .len [.v 3] <|
   .sub0 [.sl (.int .i64)] (
    .loop [.int .i64, .sl (.int .i64)] [.c (.int .i64 0), .c .nil] (
     .prim (.bin .lss) [.v 8, .v 7] <|
     .ite (.v 10) (
      .prim .idx [.v 3, .v 8] <|
      .prim .get [.v 3, .v 11] <|
      .subp [.bool] (
       .ite (.v 12) (
        .prim (.bin .neq) [.v 8, .v 1] <|
        .jmp 0 false [.v 13]) (
        .jmp 0 false [.c (.bool false)])) 1 <|
      .sub0 [.sl (.int .i64)] (
       .ite (.v 13) (
        .mkL (.int .i64) [.v 8] <|
        .prim (.app 8) [.v 9, .v 14] <|
        .jmp 0 false [.v 15]) (
        .jmp 0 false [.v 9])) 1 <|
      .prim (.bin .add) [.v 8, .c (.int .i64 1)] <|
      .jmp 0 true [.v 15, .v 14]) (
      .jmp 1 false [.v 9]))) 1 <|
   .jmp 0 false [.v 8]) 1 <|
  .prim (.bin .add) [.v 1, .c (.int .i64 1)] <|
  .prim (.clr (.bool false)) [.v 3] <|
  .mkS tsEntry [.v 8, .v 9] <|
  .jmp 0 false [.v 10, .v 2, .v 7, .c (.int .i64 0)])
theorem a_direc_Write : treeOf cx 12 17 = some A_direc_Write.erase := by kernel_rfl
theorem k_direc_Write : FnOk cx 12 noC 17 F_direc_Write := fn_ok (t := A_direc_Write) a_direc_Write (fun _ => rfl) (ok_of [(64, F_direc_has)] (by kernel_rfl) (.cons k_direc_has .nil)) (fun x => by kernel_rfl)

/-! 18: backstay/direc.Alone -/
noncomputable def direc_Alone (p0 : Entry) : Option Bool :=
  (
    (direc_May p0 (List.length (Entry.Share p0) : Int)).bind fun v3 =>
    if v3 then
      if decide ((0 : Int) < (Entry.Owner p0)) then
        (slices_Contains_bool_bool (Entry.Share p0) true).bind fun v7 =>
        some ((!v7))
      else
        some (false)
    else
      some (false) : Option Bool).bind fun v1 =>
  some (v1)
noncomputable def F_direc_Alone : FnT := ⟨[tEntry], [.bool], fun x => direc_Alone x⟩
noncomputable def A_direc_Alone : TA :=
 .sub0 [.bool] (
  .prim (.fld 1) [.v 0] <|
  .prim .len [.v 1] <|
  .call 34 F_direc_May [.v 0, .v 2] 1 <|
  .ite (.v 3) (
   .prim (.fld 0) [.v 0] <|
   .prim (.bin .gtr) [.v 4, .c (.int .i64 0)] <|
   .ite (.v 5) (
    .prim (.fld 1) [.v 0] <|
    .call 66 F_slices_Contains_bool_bool [.v 6, .c (.bool true)] 1 <|
    .prim (.un .not) [.v 7] <|
    .jmp 0 false [.v 8]) (
    .jmp 0 false [.c (.bool false)])) (
   .jmp 0 false [.c (.bool false)])) 1 <|
 .jmp 0 false [.v 1]
theorem a_direc_Alone : treeOf cx 12 18 = some A_direc_Alone.erase := by kernel_rfl
theorem k_direc_Alone : FnOk cx 12 noC 18 F_direc_Alone := fn_ok (t := A_direc_Alone) a_direc_Alone (fun _ => rfl) (ok_of [(34, F_direc_May), (66, F_slices_Contains_bool_bool)] (by kernel_rfl) (.cons k_direc_May (.cons k_slices_Contains_bool_bool .nil))) (fun x => by kernel_rfl)

/-! 25: backstay/backstayref09.Read -/
noncomputable def r09_Read (p0 : Entry) (p1 : Int) : Option (Entry × Int × Int) :=
  (r09_has p0 p1).bind fun v2 =>
  if !v2 then
    some ((p0, (0 : Int), (1 : Int)))
  else
    (
      if decide ((Entry.Owner p0) = (0 : Int)) then
        (r09_Others p0 p1).bind fun v6 =>
        some ((decide ((List.length v6 : Int) = (0 : Int))))
      else
        some (false) : Option Bool).bind fun v4 =>
    if v4 then
      let v7 : Int := (List.length (Entry.Share p0) : Int)
      (repO false 1 v7 v7).bind fun v8 =>
      some ((Entry.mk (w64 (p1 + (1 : Int))) v8, (0 : Int), (0 : Int)))
    else
      if decide ((Entry.Owner p0) = (w64 (p1 + (1 : Int)))) then
        some ((p0, w64 (p1 + (1 : Int)), (0 : Int)))
      else
        (r09_set (Entry.Share p0) p1 true).bind fun v10 =>
        some ((Entry.mk (Entry.Owner p0) v10, Entry.Owner p0, (0 : Int)))
noncomputable def F_r09_Read : FnT := ⟨[tEntry, .int .i64], [tEntry, .int .i64, .int .i64], fun x => r09_Read x.1 x.2⟩
noncomputable def A_r09_Read : TA :=
 .call 72 F_r09_has [.v 0, .v 1] 1 <|
 .prim (.un .not) [.v 2] <|
 .ite (.v 3) (
  .jmp 0 false [.v 0, .c (.int .i64 0), .c (.int .i64 1)]) (
  .sub0 [.bool] (
   .prim (.fld 0) [.v 0] <|
   .prim (.bin .eql) [.v 4, .c (.int .i64 0)] <|
   .ite (.v 5) (
    .call 33 F_r09_Others [.v 0, .v 1] 1 <|
    .prim .len [.v 6] <|
    .prim (.bin .eql) [.v 7, .c (.int .i64 0)] <|
    .jmp 0 false [.v 8]) (
    .jmp 0 false [.c (.bool false)])) 1 <|
  .ite (.v 4) (
   .prim (.bin .add) [.v 1, .c (.int .i64 1)] <|
   .prim (.fld 1) [.v 0] <|
   .prim .len [.v 6] <|
   .primH (.rep (.bool false) 1) (.sl .bool) [.v 7, .v 7] <|
   .mkS tsEntry [.v 5, .v 8] <|
   .jmp 0 false [.v 9, .c (.int .i64 0), .c (.int .i64 0)]) (
   .prim (.fld 0) [.v 0] <|
   .prim (.bin .add) [.v 1, .c (.int .i64 1)] <|
   .prim (.bin .eql) [.v 5, .v 6] <|
   .ite (.v 7) (
    .prim (.bin .add) [.v 1, .c (.int .i64 1)] <|
    .jmp 0 false [.v 0, .v 8, .c (.int .i64 0)]) (
    .prim (.fld 0) [.v 0] <|
    .prim (.fld 1) [.v 0] <|
    .call 73 F_r09_set [.v 9, .v 1, .c (.bool true)] 1 <|
    .mkS tsEntry [.v 8, .v 10] <|
    .prim (.fld 0) [.v 0] <|
    .jmp 0 false [.v 11, .v 12, .c (.int .i64 0)])))
theorem a_r09_Read : treeOf cx 12 25 = some A_r09_Read.erase := by kernel_rfl
theorem k_r09_Read : FnOk cx 12 noC 25 F_r09_Read := fn_ok (t := A_r09_Read) a_r09_Read (fun _ => rfl) (ok_of [(72, F_r09_has), (33, F_r09_Others), (73, F_r09_set)] (by kernel_rfl) (.cons k_r09_has (.cons k_r09_Others (.cons k_r09_set .nil)))) (fun x => by kernel_rfl)

/-! 27: backstay/backstayref09.Write -/
noncomputable def r09_Write (p0 : Entry) (p1 : Int) : Option (Entry × Int × (List Int) × Int) :=
  (r09_has p0 p1).bind fun v2 =>
  if !v2 then
    some ((p0, (0 : Int), ([] : List Int), (1 : Int)))
  else
    let v6 : Int := (List.length (Entry.Share p0) : Int)
    (repO false 1 v6 v6).bind fun v7 =>
    (r09_Others p0 p1).bind fun v9 =>
    some ((Entry.mk (w64 (p1 + (1 : Int))) v7, Entry.Owner p0, v9, (0 : Int)))
noncomputable def F_r09_Write : FnT := ⟨[tEntry, .int .i64], [tEntry, .int .i64, .sl (.int .i64), .int .i64], fun x => r09_Write x.1 x.2⟩
noncomputable def A_r09_Write : TA :=
 .call 72 F_r09_has [.v 0, .v 1] 1 <|
 .prim (.un .not) [.v 2] <|
 .ite (.v 3) (
  .jmp 0 false [.v 0, .c (.int .i64 0), .c .nil, .c (.int .i64 1)]) (
  .prim (.bin .add) [.v 1, .c (.int .i64 1)] <|
  .prim (.fld 1) [.v 0] <|
  .prim .len [.v 5] <|
  .primH (.rep (.bool false) 1) (.sl .bool) [.v 6, .v 6] <|
  .prim (.fld 0) [.v 0] <|
  .call 33 F_r09_Others [.v 0, .v 1] 1 <|
  .mkS tsEntry [.v 4, .v 7] <|
  .jmp 0 false [.v 10, .v 8, .v 9, .c (.int .i64 0)])
theorem a_r09_Write : treeOf cx 12 27 = some A_r09_Write.erase := by kernel_rfl
theorem k_r09_Write : FnOk cx 12 noC 27 F_r09_Write := fn_ok (t := A_r09_Write) a_r09_Write (fun _ => rfl) (ok_of [(72, F_r09_has), (33, F_r09_Others)] (by kernel_rfl) (.cons k_r09_has (.cons k_r09_Others .nil))) (fun x => by kernel_rfl)

/-! 29: backstay/direc.Back -/
noncomputable def direc_Back (p0 : Entry) (p1 : Int) : Option (Entry × Int) :=
  (
    (cloneO 1 (Entry.Share p0)).bind fun v3 =>
    some ((Entry.Owner p0, v3)) : Option (Int × (List Bool))).bind fun v2 =>
  (direc_has (Entry.mk v2.1 v2.2) p1).bind fun v5 =>
  if !v5 then
    some ((Entry.mk v2.1 v2.2, (1 : Int)))
  else
    if !decide (v2.1 = (w64 (p1 + (1 : Int)))) then
      some ((Entry.mk v2.1 v2.2, (7 : Int)))
    else
      some ((Entry.mk (0 : Int) v2.2, (0 : Int)))
noncomputable def F_direc_Back : FnT := ⟨[tEntry, .int .i64], [tEntry, .int .i64], fun x => direc_Back x.1 x.2⟩
noncomputable def A_direc_Back : TA :=
 .sub0 [.int .i64, .sl .bool] (
  .prim (.fld 1) [.v 0] <|
  .clone 3 1 .bool (.v 2) <|
  .prim (.fld 0) [.v 0] <|
  .prim (.fld 1) [.v 0] <|
  .jmp 0 false [.v 4, .v 3]) 2 <|
 .mkS tsEntry [.v 2, .v 3] <|
 .call 64 F_direc_has [.v 4, .v 1] 1 <|
 .prim (.un .not) [.v 5] <|
 .ite (.v 6) (
  .mkS tsEntry [.v 2, .v 3] <|
  .jmp 0 false [.v 7, .c (.int .i64 1)]) (
  .prim (.bin .add) [.v 1, .c (.int .i64 1)] <|
  .prim (.bin .neq) [.v 2, .v 7] <|
  .ite (.v 8) (
   .mkS tsEntry [.v 2, .v 3] <|
   .jmp 0 false [.v 9, .c (.int .i64 7)]) (
   .mkS tsEntry [.c (.int .i64 0), .v 3] <|
   .jmp 0 false [.v 9, .c (.int .i64 0)]))
theorem a_direc_Back : treeOf cx 12 29 = some A_direc_Back.erase := by kernel_rfl
theorem k_direc_Back : FnOk cx 12 noC 29 F_direc_Back := fn_ok (t := A_direc_Back) a_direc_Back (fun _ => rfl) (ok_of [(64, F_direc_has)] (by kernel_rfl) (.cons k_direc_has .nil)) (fun x => by kernel_rfl)

/-! 30: backstay/backstayref09.Back -/
noncomputable def r09_Back (p0 : Entry) (p1 : Int) : Option (Entry × Int) :=
  (r09_has p0 p1).bind fun v2 =>
  if !v2 then
    some ((p0, (1 : Int)))
  else
    if !decide ((Entry.Owner p0) = (w64 (p1 + (1 : Int)))) then
      some ((p0, (7 : Int)))
    else
      some ((Entry.mk (0 : Int) (Entry.Share p0), (0 : Int)))
noncomputable def F_r09_Back : FnT := ⟨[tEntry, .int .i64], [tEntry, .int .i64], fun x => r09_Back x.1 x.2⟩
noncomputable def A_r09_Back : TA :=
 .call 72 F_r09_has [.v 0, .v 1] 1 <|
 .prim (.un .not) [.v 2] <|
 .ite (.v 3) (
  .jmp 0 false [.v 0, .c (.int .i64 1)]) (
  .prim (.fld 0) [.v 0] <|
  .prim (.bin .add) [.v 1, .c (.int .i64 1)] <|
  .prim (.bin .neq) [.v 4, .v 5] <|
  .ite (.v 6) (
   .jmp 0 false [.v 0, .c (.int .i64 7)]) (
   .prim (.fld 1) [.v 0] <|
   .mkS tsEntry [.c (.int .i64 0), .v 7] <|
   .jmp 0 false [.v 8, .c (.int .i64 0)]))
theorem a_r09_Back : treeOf cx 12 30 = some A_r09_Back.erase := by kernel_rfl
theorem k_r09_Back : FnOk cx 12 noC 30 F_r09_Back := fn_ok (t := A_r09_Back) a_r09_Back (fun _ => rfl) (ok_of [(72, F_r09_has)] (by kernel_rfl) (.cons k_r09_has .nil)) (fun x => by kernel_rfl)

/-! 14: backstay/backstaylaw09.awake -/
def l09_awake : Bool := true
def F_l09_awake : PnT := ⟨[], [.bool], fun _ => l09_awake⟩
theorem k_l09_awake : FnOk cx 12 noC 14 F_l09_awake.fn := fun ds x r hx hr => by
  have hx : ds = [] := hx
  subst hx
  exact ⟨[.bool true], call_now 100 12 (by kernel_rfl), .bool true, rfl, congrArg D.bool (Option.some.inj hr)⟩

end Go.Proofs.Ytklkpogdghiagaa
