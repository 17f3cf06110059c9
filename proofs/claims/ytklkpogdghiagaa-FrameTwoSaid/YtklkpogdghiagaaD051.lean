/- The types of this cut, and its functions as functions of plain typed data. Printed by a program of this claim's prover; each is checked here to be what the executor makes of the code. -/
import Derived.Test.YtklkpogdghiagaaProg
import Derived.Test.YtklkpogdghiagaaLim
import Derived.KernelRfl
set_option linter.unusedVariables false
set_option maxRecDepth 100000
namespace Go.Proofs.Ytklkpogdghiagaa
open Go.SX
abbrev tsl11_Do : List Ty := [.int .u8, .int .u8, .int .u8, .int .u32]
abbrev tl11_Do : Ty := .st tsl11_Do
abbrev l11_Do : Type := Int × Int × Int × Int
def l11_Do.mk (Kind : Int) (At : Int) (To : Int) (Val : Int) : l11_Do := (Kind, At, To, Val)
def l11_Do.Kind (x : l11_Do) : Int := x.1
def l11_Do.At (x : l11_Do) : Int := x.2.1
def l11_Do.To (x : l11_Do) : Int := x.2.2.1
def l11_Do.Val (x : l11_Do) : Int := x.2.2.2
def l11_Do.setKind (x : l11_Do) (v : Int) : l11_Do := (v, x.2.1, x.2.2.1, x.2.2.2)
def l11_Do.setAt (x : l11_Do) (v : Int) : l11_Do := (x.1, v, x.2.2.1, x.2.2.2)
def l11_Do.setTo (x : l11_Do) (v : Int) : l11_Do := (x.1, x.2.1, v, x.2.2.2)
def l11_Do.setVal (x : l11_Do) (v : Int) : l11_Do := (x.1, x.2.1, x.2.2.1, v)
@[simp] theorem l11_Do.Kind_mk (Kind : Int) (At : Int) (To : Int) (Val : Int) : l11_Do.Kind (l11_Do.mk Kind At To Val) = Kind := rfl
@[simp] theorem l11_Do.At_mk (Kind : Int) (At : Int) (To : Int) (Val : Int) : l11_Do.At (l11_Do.mk Kind At To Val) = At := rfl
@[simp] theorem l11_Do.To_mk (Kind : Int) (At : Int) (To : Int) (Val : Int) : l11_Do.To (l11_Do.mk Kind At To Val) = To := rfl
@[simp] theorem l11_Do.Val_mk (Kind : Int) (At : Int) (To : Int) (Val : Int) : l11_Do.Val (l11_Do.mk Kind At To Val) = Val := rfl
@[simp] theorem l11_Do.setKind_eq (x : l11_Do) (v : Int) : l11_Do.setKind x v = l11_Do.mk v (l11_Do.At x) (l11_Do.To x) (l11_Do.Val x) := rfl
@[simp] theorem l11_Do.setAt_eq (x : l11_Do) (v : Int) : l11_Do.setAt x v = l11_Do.mk (l11_Do.Kind x) v (l11_Do.To x) (l11_Do.Val x) := rfl
@[simp] theorem l11_Do.setTo_eq (x : l11_Do) (v : Int) : l11_Do.setTo x v = l11_Do.mk (l11_Do.Kind x) (l11_Do.At x) v (l11_Do.Val x) := rfl
@[simp] theorem l11_Do.setVal_eq (x : l11_Do) (v : Int) : l11_Do.setVal x v = l11_Do.mk (l11_Do.Kind x) (l11_Do.At x) (l11_Do.To x) v := rfl
@[simp] theorem l11_Do.eta (x : l11_Do) : l11_Do.mk (l11_Do.Kind x) (l11_Do.At x) (l11_Do.To x) (l11_Do.Val x) = x := rfl

abbrev tsruntime_boundsError : List Ty := [.int .i64, .int .i64, .bool, .int .u8]
abbrev truntime_boundsError : Ty := .st tsruntime_boundsError
abbrev runtime_boundsError : Type := Int × Int × Bool × Int
def runtime_boundsError.mk (x : Int) (y : Int) (signed : Bool) (code : Int) : runtime_boundsError := (x, y, signed, code)
def runtime_boundsError.x (x : runtime_boundsError) : Int := x.1
def runtime_boundsError.y (x : runtime_boundsError) : Int := x.2.1
def runtime_boundsError.signed (x : runtime_boundsError) : Bool := x.2.2.1
def runtime_boundsError.code (x : runtime_boundsError) : Int := x.2.2.2
def runtime_boundsError.setx (x : runtime_boundsError) (v : Int) : runtime_boundsError := (v, x.2.1, x.2.2.1, x.2.2.2)
def runtime_boundsError.sety (x : runtime_boundsError) (v : Int) : runtime_boundsError := (x.1, v, x.2.2.1, x.2.2.2)
def runtime_boundsError.setsigned (x : runtime_boundsError) (v : Bool) : runtime_boundsError := (x.1, x.2.1, v, x.2.2.2)
def runtime_boundsError.setcode (x : runtime_boundsError) (v : Int) : runtime_boundsError := (x.1, x.2.1, x.2.2.1, v)
@[simp] theorem runtime_boundsError.x_mk (x : Int) (y : Int) (signed : Bool) (code : Int) : runtime_boundsError.x (runtime_boundsError.mk x y signed code) = x := rfl
@[simp] theorem runtime_boundsError.y_mk (x : Int) (y : Int) (signed : Bool) (code : Int) : runtime_boundsError.y (runtime_boundsError.mk x y signed code) = y := rfl
@[simp] theorem runtime_boundsError.signed_mk (x : Int) (y : Int) (signed : Bool) (code : Int) : runtime_boundsError.signed (runtime_boundsError.mk x y signed code) = signed := rfl
@[simp] theorem runtime_boundsError.code_mk (x : Int) (y : Int) (signed : Bool) (code : Int) : runtime_boundsError.code (runtime_boundsError.mk x y signed code) = code := rfl
@[simp] theorem runtime_boundsError.setx_eq (x : runtime_boundsError) (v : Int) : runtime_boundsError.setx x v = runtime_boundsError.mk v (runtime_boundsError.y x) (runtime_boundsError.signed x) (runtime_boundsError.code x) := rfl
@[simp] theorem runtime_boundsError.sety_eq (x : runtime_boundsError) (v : Int) : runtime_boundsError.sety x v = runtime_boundsError.mk (runtime_boundsError.x x) v (runtime_boundsError.signed x) (runtime_boundsError.code x) := rfl
@[simp] theorem runtime_boundsError.setsigned_eq (x : runtime_boundsError) (v : Bool) : runtime_boundsError.setsigned x v = runtime_boundsError.mk (runtime_boundsError.x x) (runtime_boundsError.y x) v (runtime_boundsError.code x) := rfl
@[simp] theorem runtime_boundsError.setcode_eq (x : runtime_boundsError) (v : Int) : runtime_boundsError.setcode x v = runtime_boundsError.mk (runtime_boundsError.x x) (runtime_boundsError.y x) (runtime_boundsError.signed x) v := rfl
@[simp] theorem runtime_boundsError.eta (x : runtime_boundsError) : runtime_boundsError.mk (runtime_boundsError.x x) (runtime_boundsError.y x) (runtime_boundsError.signed x) (runtime_boundsError.code x) = x := rfl

abbrev tsMsg : List Ty := [.int .i64, .int .i64, .int .i64, .int .i64, .int .i64, .int .i64, .bool, .int .u32, .int .u32]
abbrev tMsg : Ty := .st tsMsg
abbrev Msg : Type := Int × Int × Int × Int × Int × Int × Bool × Int × Int
def Msg.mk (Kind : Int) (From : Int) (To : Int) (Line : Int) (For : Int) (Acks : Int) (Own : Bool) (Num : Int) (Val : Int) : Msg := (Kind, From, To, Line, For, Acks, Own, Num, Val)
def Msg.Kind (x : Msg) : Int := x.1
def Msg.From (x : Msg) : Int := x.2.1
def Msg.To (x : Msg) : Int := x.2.2.1
def Msg.Line (x : Msg) : Int := x.2.2.2.1
def Msg.For (x : Msg) : Int := x.2.2.2.2.1
def Msg.Acks (x : Msg) : Int := x.2.2.2.2.2.1
def Msg.Own (x : Msg) : Bool := x.2.2.2.2.2.2.1
def Msg.Num (x : Msg) : Int := x.2.2.2.2.2.2.2.1
def Msg.Val (x : Msg) : Int := x.2.2.2.2.2.2.2.2
def Msg.setKind (x : Msg) (v : Int) : Msg := (v, x.2.1, x.2.2.1, x.2.2.2.1, x.2.2.2.2.1, x.2.2.2.2.2.1, x.2.2.2.2.2.2.1, x.2.2.2.2.2.2.2.1, x.2.2.2.2.2.2.2.2)
def Msg.setFrom (x : Msg) (v : Int) : Msg := (x.1, v, x.2.2.1, x.2.2.2.1, x.2.2.2.2.1, x.2.2.2.2.2.1, x.2.2.2.2.2.2.1, x.2.2.2.2.2.2.2.1, x.2.2.2.2.2.2.2.2)
def Msg.setTo (x : Msg) (v : Int) : Msg := (x.1, x.2.1, v, x.2.2.2.1, x.2.2.2.2.1, x.2.2.2.2.2.1, x.2.2.2.2.2.2.1, x.2.2.2.2.2.2.2.1, x.2.2.2.2.2.2.2.2)
def Msg.setLine (x : Msg) (v : Int) : Msg := (x.1, x.2.1, x.2.2.1, v, x.2.2.2.2.1, x.2.2.2.2.2.1, x.2.2.2.2.2.2.1, x.2.2.2.2.2.2.2.1, x.2.2.2.2.2.2.2.2)
def Msg.setFor (x : Msg) (v : Int) : Msg := (x.1, x.2.1, x.2.2.1, x.2.2.2.1, v, x.2.2.2.2.2.1, x.2.2.2.2.2.2.1, x.2.2.2.2.2.2.2.1, x.2.2.2.2.2.2.2.2)
def Msg.setAcks (x : Msg) (v : Int) : Msg := (x.1, x.2.1, x.2.2.1, x.2.2.2.1, x.2.2.2.2.1, v, x.2.2.2.2.2.2.1, x.2.2.2.2.2.2.2.1, x.2.2.2.2.2.2.2.2)
def Msg.setOwn (x : Msg) (v : Bool) : Msg := (x.1, x.2.1, x.2.2.1, x.2.2.2.1, x.2.2.2.2.1, x.2.2.2.2.2.1, v, x.2.2.2.2.2.2.2.1, x.2.2.2.2.2.2.2.2)
def Msg.setNum (x : Msg) (v : Int) : Msg := (x.1, x.2.1, x.2.2.1, x.2.2.2.1, x.2.2.2.2.1, x.2.2.2.2.2.1, x.2.2.2.2.2.2.1, v, x.2.2.2.2.2.2.2.2)
def Msg.setVal (x : Msg) (v : Int) : Msg := (x.1, x.2.1, x.2.2.1, x.2.2.2.1, x.2.2.2.2.1, x.2.2.2.2.2.1, x.2.2.2.2.2.2.1, x.2.2.2.2.2.2.2.1, v)
@[simp] theorem Msg.Kind_mk (Kind : Int) (From : Int) (To : Int) (Line : Int) (For : Int) (Acks : Int) (Own : Bool) (Num : Int) (Val : Int) : Msg.Kind (Msg.mk Kind From To Line For Acks Own Num Val) = Kind := rfl
@[simp] theorem Msg.From_mk (Kind : Int) (From : Int) (To : Int) (Line : Int) (For : Int) (Acks : Int) (Own : Bool) (Num : Int) (Val : Int) : Msg.From (Msg.mk Kind From To Line For Acks Own Num Val) = From := rfl
@[simp] theorem Msg.To_mk (Kind : Int) (From : Int) (To : Int) (Line : Int) (For : Int) (Acks : Int) (Own : Bool) (Num : Int) (Val : Int) : Msg.To (Msg.mk Kind From To Line For Acks Own Num Val) = To := rfl
@[simp] theorem Msg.Line_mk (Kind : Int) (From : Int) (To : Int) (Line : Int) (For : Int) (Acks : Int) (Own : Bool) (Num : Int) (Val : Int) : Msg.Line (Msg.mk Kind From To Line For Acks Own Num Val) = Line := rfl
@[simp] theorem Msg.For_mk (Kind : Int) (From : Int) (To : Int) (Line : Int) (For : Int) (Acks : Int) (Own : Bool) (Num : Int) (Val : Int) : Msg.For (Msg.mk Kind From To Line For Acks Own Num Val) = For := rfl
@[simp] theorem Msg.Acks_mk (Kind : Int) (From : Int) (To : Int) (Line : Int) (For : Int) (Acks : Int) (Own : Bool) (Num : Int) (Val : Int) : Msg.Acks (Msg.mk Kind From To Line For Acks Own Num Val) = Acks := rfl
@[simp] theorem Msg.Own_mk (Kind : Int) (From : Int) (To : Int) (Line : Int) (For : Int) (Acks : Int) (Own : Bool) (Num : Int) (Val : Int) : Msg.Own (Msg.mk Kind From To Line For Acks Own Num Val) = Own := rfl
@[simp] theorem Msg.Num_mk (Kind : Int) (From : Int) (To : Int) (Line : Int) (For : Int) (Acks : Int) (Own : Bool) (Num : Int) (Val : Int) : Msg.Num (Msg.mk Kind From To Line For Acks Own Num Val) = Num := rfl
@[simp] theorem Msg.Val_mk (Kind : Int) (From : Int) (To : Int) (Line : Int) (For : Int) (Acks : Int) (Own : Bool) (Num : Int) (Val : Int) : Msg.Val (Msg.mk Kind From To Line For Acks Own Num Val) = Val := rfl
@[simp] theorem Msg.setKind_eq (x : Msg) (v : Int) : Msg.setKind x v = Msg.mk v (Msg.From x) (Msg.To x) (Msg.Line x) (Msg.For x) (Msg.Acks x) (Msg.Own x) (Msg.Num x) (Msg.Val x) := rfl
@[simp] theorem Msg.setFrom_eq (x : Msg) (v : Int) : Msg.setFrom x v = Msg.mk (Msg.Kind x) v (Msg.To x) (Msg.Line x) (Msg.For x) (Msg.Acks x) (Msg.Own x) (Msg.Num x) (Msg.Val x) := rfl
@[simp] theorem Msg.setTo_eq (x : Msg) (v : Int) : Msg.setTo x v = Msg.mk (Msg.Kind x) (Msg.From x) v (Msg.Line x) (Msg.For x) (Msg.Acks x) (Msg.Own x) (Msg.Num x) (Msg.Val x) := rfl
@[simp] theorem Msg.setLine_eq (x : Msg) (v : Int) : Msg.setLine x v = Msg.mk (Msg.Kind x) (Msg.From x) (Msg.To x) v (Msg.For x) (Msg.Acks x) (Msg.Own x) (Msg.Num x) (Msg.Val x) := rfl
@[simp] theorem Msg.setFor_eq (x : Msg) (v : Int) : Msg.setFor x v = Msg.mk (Msg.Kind x) (Msg.From x) (Msg.To x) (Msg.Line x) v (Msg.Acks x) (Msg.Own x) (Msg.Num x) (Msg.Val x) := rfl
@[simp] theorem Msg.setAcks_eq (x : Msg) (v : Int) : Msg.setAcks x v = Msg.mk (Msg.Kind x) (Msg.From x) (Msg.To x) (Msg.Line x) (Msg.For x) v (Msg.Own x) (Msg.Num x) (Msg.Val x) := rfl
@[simp] theorem Msg.setOwn_eq (x : Msg) (v : Bool) : Msg.setOwn x v = Msg.mk (Msg.Kind x) (Msg.From x) (Msg.To x) (Msg.Line x) (Msg.For x) (Msg.Acks x) v (Msg.Num x) (Msg.Val x) := rfl
@[simp] theorem Msg.setNum_eq (x : Msg) (v : Int) : Msg.setNum x v = Msg.mk (Msg.Kind x) (Msg.From x) (Msg.To x) (Msg.Line x) (Msg.For x) (Msg.Acks x) (Msg.Own x) v (Msg.Val x) := rfl
@[simp] theorem Msg.setVal_eq (x : Msg) (v : Int) : Msg.setVal x v = Msg.mk (Msg.Kind x) (Msg.From x) (Msg.To x) (Msg.Line x) (Msg.For x) (Msg.Acks x) (Msg.Own x) (Msg.Num x) v := rfl
@[simp] theorem Msg.eta (x : Msg) : Msg.mk (Msg.Kind x) (Msg.From x) (Msg.To x) (Msg.Line x) (Msg.For x) (Msg.Acks x) (Msg.Own x) (Msg.Num x) (Msg.Val x) = x := rfl

abbrev tsUndo : List Ty := [.int .i64, .int .i64, .int .u32]
abbrev tUndo : Ty := .st tsUndo
abbrev Undo : Type := Int × Int × Int
def Undo.mk (Span : Int) (At : Int) (Val : Int) : Undo := (Span, At, Val)
def Undo.Span (x : Undo) : Int := x.1
def Undo.At (x : Undo) : Int := x.2.1
def Undo.Val (x : Undo) : Int := x.2.2
def Undo.setSpan (x : Undo) (v : Int) : Undo := (v, x.2.1, x.2.2)
def Undo.setAt (x : Undo) (v : Int) : Undo := (x.1, v, x.2.2)
def Undo.setVal (x : Undo) (v : Int) : Undo := (x.1, x.2.1, v)
@[simp] theorem Undo.Span_mk (Span : Int) (At : Int) (Val : Int) : Undo.Span (Undo.mk Span At Val) = Span := rfl
@[simp] theorem Undo.At_mk (Span : Int) (At : Int) (Val : Int) : Undo.At (Undo.mk Span At Val) = At := rfl
@[simp] theorem Undo.Val_mk (Span : Int) (At : Int) (Val : Int) : Undo.Val (Undo.mk Span At Val) = Val := rfl
@[simp] theorem Undo.setSpan_eq (x : Undo) (v : Int) : Undo.setSpan x v = Undo.mk v (Undo.At x) (Undo.Val x) := rfl
@[simp] theorem Undo.setAt_eq (x : Undo) (v : Int) : Undo.setAt x v = Undo.mk (Undo.Span x) v (Undo.Val x) := rfl
@[simp] theorem Undo.setVal_eq (x : Undo) (v : Int) : Undo.setVal x v = Undo.mk (Undo.Span x) (Undo.At x) v := rfl
@[simp] theorem Undo.eta (x : Undo) : Undo.mk (Undo.Span x) (Undo.At x) (Undo.Val x) = x := rfl

abbrev tsruntime_errorAddressString : List Ty := [.str, .int .u64]
abbrev truntime_errorAddressString : Ty := .st tsruntime_errorAddressString
abbrev runtime_errorAddressString : Type := (List Int) × Int
def runtime_errorAddressString.mk (msg : List Int) (addr : Int) : runtime_errorAddressString := (msg, addr)
def runtime_errorAddressString.msg (x : runtime_errorAddressString) : List Int := x.1
def runtime_errorAddressString.addr (x : runtime_errorAddressString) : Int := x.2
def runtime_errorAddressString.setmsg (x : runtime_errorAddressString) (v : List Int) : runtime_errorAddressString := (v, x.2)
def runtime_errorAddressString.setaddr (x : runtime_errorAddressString) (v : Int) : runtime_errorAddressString := (x.1, v)
@[simp] theorem runtime_errorAddressString.msg_mk (msg : List Int) (addr : Int) : runtime_errorAddressString.msg (runtime_errorAddressString.mk msg addr) = msg := rfl
@[simp] theorem runtime_errorAddressString.addr_mk (msg : List Int) (addr : Int) : runtime_errorAddressString.addr (runtime_errorAddressString.mk msg addr) = addr := rfl
@[simp] theorem runtime_errorAddressString.setmsg_eq (x : runtime_errorAddressString) (v : List Int) : runtime_errorAddressString.setmsg x v = runtime_errorAddressString.mk v (runtime_errorAddressString.addr x) := rfl
@[simp] theorem runtime_errorAddressString.setaddr_eq (x : runtime_errorAddressString) (v : Int) : runtime_errorAddressString.setaddr x v = runtime_errorAddressString.mk (runtime_errorAddressString.msg x) v := rfl
@[simp] theorem runtime_errorAddressString.eta (x : runtime_errorAddressString) : runtime_errorAddressString.mk (runtime_errorAddressString.msg x) (runtime_errorAddressString.addr x) = x := rfl

abbrev tsl12_Do : List Ty := [.int .u8, .int .u8]
abbrev tl12_Do : Ty := .st tsl12_Do
abbrev l12_Do : Type := Int × Int
def l12_Do.mk (Kind : Int) (More : Int) : l12_Do := (Kind, More)
def l12_Do.Kind (x : l12_Do) : Int := x.1
def l12_Do.More (x : l12_Do) : Int := x.2
def l12_Do.setKind (x : l12_Do) (v : Int) : l12_Do := (v, x.2)
def l12_Do.setMore (x : l12_Do) (v : Int) : l12_Do := (x.1, v)
@[simp] theorem l12_Do.Kind_mk (Kind : Int) (More : Int) : l12_Do.Kind (l12_Do.mk Kind More) = Kind := rfl
@[simp] theorem l12_Do.More_mk (Kind : Int) (More : Int) : l12_Do.More (l12_Do.mk Kind More) = More := rfl
@[simp] theorem l12_Do.setKind_eq (x : l12_Do) (v : Int) : l12_Do.setKind x v = l12_Do.mk v (l12_Do.More x) := rfl
@[simp] theorem l12_Do.setMore_eq (x : l12_Do) (v : Int) : l12_Do.setMore x v = l12_Do.mk (l12_Do.Kind x) v := rfl
@[simp] theorem l12_Do.eta (x : l12_Do) : l12_Do.mk (l12_Do.Kind x) (l12_Do.More x) = x := rfl

abbrev tsEntry : List Ty := [.int .i64, .sl .bool]
abbrev tEntry : Ty := .st tsEntry
abbrev Entry : Type := Int × (List Bool)
def Entry.mk (Owner : Int) (Share : List Bool) : Entry := (Owner, Share)
def Entry.Owner (x : Entry) : Int := x.1
def Entry.Share (x : Entry) : List Bool := x.2
def Entry.setOwner (x : Entry) (v : Int) : Entry := (v, x.2)
def Entry.setShare (x : Entry) (v : List Bool) : Entry := (x.1, v)
@[simp] theorem Entry.Owner_mk (Owner : Int) (Share : List Bool) : Entry.Owner (Entry.mk Owner Share) = Owner := rfl
@[simp] theorem Entry.Share_mk (Owner : Int) (Share : List Bool) : Entry.Share (Entry.mk Owner Share) = Share := rfl
@[simp] theorem Entry.setOwner_eq (x : Entry) (v : Int) : Entry.setOwner x v = Entry.mk v (Entry.Share x) := rfl
@[simp] theorem Entry.setShare_eq (x : Entry) (v : List Bool) : Entry.setShare x v = Entry.mk (Entry.Owner x) v := rfl
@[simp] theorem Entry.eta (x : Entry) : Entry.mk (Entry.Owner x) (Entry.Share x) = x := rfl

abbrev tsCore : List Ty := [.arr 8 (.int .u32), .int .i64, .bool]
abbrev tCore : Ty := .st tsCore
abbrev Core : Type := (List Int) × Int × Bool
def Core.mk (Regs : List Int) (PC : Int) (Halted : Bool) : Core := (Regs, PC, Halted)
def Core.Regs (x : Core) : List Int := x.1
def Core.PC (x : Core) : Int := x.2.1
def Core.Halted (x : Core) : Bool := x.2.2
def Core.setRegs (x : Core) (v : List Int) : Core := (v, x.2.1, x.2.2)
def Core.setPC (x : Core) (v : Int) : Core := (x.1, v, x.2.2)
def Core.setHalted (x : Core) (v : Bool) : Core := (x.1, x.2.1, v)
@[simp] theorem Core.Regs_mk (Regs : List Int) (PC : Int) (Halted : Bool) : Core.Regs (Core.mk Regs PC Halted) = Regs := rfl
@[simp] theorem Core.PC_mk (Regs : List Int) (PC : Int) (Halted : Bool) : Core.PC (Core.mk Regs PC Halted) = PC := rfl
@[simp] theorem Core.Halted_mk (Regs : List Int) (PC : Int) (Halted : Bool) : Core.Halted (Core.mk Regs PC Halted) = Halted := rfl
@[simp] theorem Core.setRegs_eq (x : Core) (v : List Int) : Core.setRegs x v = Core.mk v (Core.PC x) (Core.Halted x) := rfl
@[simp] theorem Core.setPC_eq (x : Core) (v : Int) : Core.setPC x v = Core.mk (Core.Regs x) v (Core.Halted x) := rfl
@[simp] theorem Core.setHalted_eq (x : Core) (v : Bool) : Core.setHalted x v = Core.mk (Core.Regs x) (Core.PC x) v := rfl
@[simp] theorem Core.eta (x : Core) : Core.mk (Core.Regs x) (Core.PC x) (Core.Halted x) = x := rfl

abbrev tsLog : List Ty := [.sl (.int .u32), .int .i64, .sl tUndo]
abbrev tLog : Ty := .st tsLog
abbrev Log : Type := (List Int) × Int × (List Undo)
def Log.mk (Mem : List Int) (Span : Int) (Lst : List Undo) : Log := (Mem, Span, Lst)
def Log.Mem (x : Log) : List Int := x.1
def Log.Span (x : Log) : Int := x.2.1
def Log.Lst (x : Log) : List Undo := x.2.2
def Log.setMem (x : Log) (v : List Int) : Log := (v, x.2.1, x.2.2)
def Log.setSpan (x : Log) (v : Int) : Log := (x.1, v, x.2.2)
def Log.setLst (x : Log) (v : List Undo) : Log := (x.1, x.2.1, v)
@[simp] theorem Log.Mem_mk (Mem : List Int) (Span : Int) (Lst : List Undo) : Log.Mem (Log.mk Mem Span Lst) = Mem := rfl
@[simp] theorem Log.Span_mk (Mem : List Int) (Span : Int) (Lst : List Undo) : Log.Span (Log.mk Mem Span Lst) = Span := rfl
@[simp] theorem Log.Lst_mk (Mem : List Int) (Span : Int) (Lst : List Undo) : Log.Lst (Log.mk Mem Span Lst) = Lst := rfl
@[simp] theorem Log.setMem_eq (x : Log) (v : List Int) : Log.setMem x v = Log.mk v (Log.Span x) (Log.Lst x) := rfl
@[simp] theorem Log.setSpan_eq (x : Log) (v : Int) : Log.setSpan x v = Log.mk (Log.Mem x) v (Log.Lst x) := rfl
@[simp] theorem Log.setLst_eq (x : Log) (v : List Undo) : Log.setLst x v = Log.mk (Log.Mem x) (Log.Span x) v := rfl
@[simp] theorem Log.eta (x : Log) : Log.mk (Log.Mem x) (Log.Span x) (Log.Lst x) = x := rfl

abbrev tsMark : List Ty := [.int .i64, .int .i64, .sl tCore]
abbrev tMark : Ty := .st tsMark
abbrev Mark : Type := Int × Int × (List Core)
def Mark.mk (Span : Int) (When : Int) (Cores : List Core) : Mark := (Span, When, Cores)
def Mark.Span (x : Mark) : Int := x.1
def Mark.When (x : Mark) : Int := x.2.1
def Mark.Cores (x : Mark) : List Core := x.2.2
def Mark.setSpan (x : Mark) (v : Int) : Mark := (v, x.2.1, x.2.2)
def Mark.setWhen (x : Mark) (v : Int) : Mark := (x.1, v, x.2.2)
def Mark.setCores (x : Mark) (v : List Core) : Mark := (x.1, x.2.1, v)
@[simp] theorem Mark.Span_mk (Span : Int) (When : Int) (Cores : List Core) : Mark.Span (Mark.mk Span When Cores) = Span := rfl
@[simp] theorem Mark.When_mk (Span : Int) (When : Int) (Cores : List Core) : Mark.When (Mark.mk Span When Cores) = When := rfl
@[simp] theorem Mark.Cores_mk (Span : Int) (When : Int) (Cores : List Core) : Mark.Cores (Mark.mk Span When Cores) = Cores := rfl
@[simp] theorem Mark.setSpan_eq (x : Mark) (v : Int) : Mark.setSpan x v = Mark.mk v (Mark.When x) (Mark.Cores x) := rfl
@[simp] theorem Mark.setWhen_eq (x : Mark) (v : Int) : Mark.setWhen x v = Mark.mk (Mark.Span x) v (Mark.Cores x) := rfl
@[simp] theorem Mark.setCores_eq (x : Mark) (v : List Core) : Mark.setCores x v = Mark.mk (Mark.Span x) (Mark.When x) v := rfl
@[simp] theorem Mark.eta (x : Mark) : Mark.mk (Mark.Span x) (Mark.When x) (Mark.Cores x) = x := rfl

abbrev tsClock : List Ty := [.sl tMark, .int .i64]
abbrev tClock : Ty := .st tsClock
abbrev Clock : Type := (List Mark) × Int
def Clock.mk (Marks : List Mark) (Wait : Int) : Clock := (Marks, Wait)
def Clock.Marks (x : Clock) : List Mark := x.1
def Clock.Wait (x : Clock) : Int := x.2
def Clock.setMarks (x : Clock) (v : List Mark) : Clock := (v, x.2)
def Clock.setWait (x : Clock) (v : Int) : Clock := (x.1, v)
@[simp] theorem Clock.Marks_mk (Marks : List Mark) (Wait : Int) : Clock.Marks (Clock.mk Marks Wait) = Marks := rfl
@[simp] theorem Clock.Wait_mk (Marks : List Mark) (Wait : Int) : Clock.Wait (Clock.mk Marks Wait) = Wait := rfl
@[simp] theorem Clock.setMarks_eq (x : Clock) (v : List Mark) : Clock.setMarks x v = Clock.mk v (Clock.Wait x) := rfl
@[simp] theorem Clock.setWait_eq (x : Clock) (v : Int) : Clock.setWait x v = Clock.mk (Clock.Marks x) v := rfl
@[simp] theorem Clock.eta (x : Clock) : Clock.mk (Clock.Marks x) (Clock.Wait x) = x := rfl

def tys : List Ty := [.no, .no, .int .i64, .int .i64, .bool, .int .u8, .int .u8, truntime_boundsError, truntime_boundsError, .str, .str, .str, .int .u64, truntime_errorAddressString, truntime_errorAddressString, .no, .no, .no, .no, .no, .no, .int .i32, .sl (.int .u8), .no, .sl .bool, tEntry, tEntry, .int .i64, .no, .no, .no, .no, .sl (.int .i64), .no, .no, .no, .no, .sl tMark, tClock, tClock, .int .u16, .no, .no, .no, .no, .sl tCore, tMark, tMark, .no, .no, .no, .no, .no, .no, .no, .no, .no, .no, .no, .no, .no, .no, .no, .no, .no, .no, .sl tl12_Do, .no, tl12_Do, tl12_Do, .no, .no, .no, .no, .sl (.int .u32), .sl tUndo, tLog, tLog, .no, .no, .no, .no, .int .u32, tUndo, tUndo, .no, .no, .no, tMsg, tMsg, .no, .no, .no, .no, .no, .no, .no, .no, .no, .no, .no, .int .u64, .no, .no, .no, .no, .no, .no, .no, .no, .no, .sl tl11_Do, .sl (.sl (.int .u32)), tl11_Do, tl11_Do, .no, .no, .no, .no, .arr 8 (.int .u32), tCore, tCore, .no, .no, .no, .no, .no, .no, .no, .no, .no, .no, .no, .no, .no, .no, .no, .arr 5 (.int .i64), .no, .no, .no, .arr 2 (.int .i64), .no, .no, .no, .no, .no, .no, .no, .arr 4 (.int .u8), .no, .sl (.sl (.int .u8)), .no, .no, .no, .no, .no, .no, .no, .no, .int .u8, .int .u8, .no, .no, .int .i32, .int .i32, .no, .no, .no]
noncomputable def cx : Cx := { P := Try.prog, ty := tys, own := [], inl := [46, 47, 63, 65, 67, 70, 75, 79, 90, 92, 93, 94, 96, 99], keepL := [], absL := [46, 47, 63, 67, 75, 79], heads := [(52, [(2, 908, ⟨4, 0, mkSlots 31 0 [(2, .d (.int .u32) (.c (.int .u32 0))), (3, .d (.int .u32) (.v 2)), (7, .d (.sl (.int .u8)) (.v 0)), (8, .d (.int .i64) (.v 1)), (9, .d (.int .i64) (.v 3))], []⟩),
    (8, 131980, ⟨10, 0, mkSlots 31 0 [(2, .d (.int .u32) (.c (.int .u32 0))), (3, .d (.int .u32) (.v 8)), (7, .d (.sl (.int .u8)) (.v 0)), (8, .d (.int .i64) (.v 1)), (9, .d (.int .i64) (.v 3)), (17, .d (.int .i64) (.v 9))], []⟩)]),
  (53, [(1, 29, ⟨3, 0, mkSlots 33 0 [(0, .d (.sl (.int .u8)) (.v 0)), (2, .d (.int .u32) (.c (.int .u32 0))), (3, .d (.int .u32) (.v 1)), (4, .d (.int .i64) (.v 2))], []⟩),
    (8, 61, ⟨10, 0, mkSlots 33 0 [(0, .d (.sl (.int .u8)) (.v 0)), (2, .d (.int .u32) (.c (.int .u32 0))), (3, .d (.int .u32) (.v 8)), (4, .d (.int .i64) (.v 2)), (5, .d (.int .i64) (.v 9))], []⟩)])] }
theorem tyOk : TysOk cx := chkTys_ok (by kernel_rfl)
theorem mixed : Try.prog.follows .mixedOrders = true := by kernel_rfl
def noC : FuncId → List D → Option (List D) := fun _ _ => none
theorem noC_ok : CallsOk cx noC := fun _ _ _ _ _ _ _ h => by cases h
theorem call_now {f : FuncId} {ds rs : List D} (k d : Nat) (h : callF cx k 12 noC d f ds = some rs) : callL cx 12 noC f ds = some rs := (callL_some cx 12 noC).2 ⟨k, d, h⟩

/-! 51: backstay/backstayref05.May -/
noncomputable def r05_May_L1 (x6 : List Int) (s : Int) : Option (Int ⊕ Unit ⊕ Bool) :=
  if decide (s < (5 : Int)) then
    (
      (idxO (5 : Int) s).bind fun v9 =>
      (getO x6 v9).bind fun v10 =>
      if decide (v10 < (0 : Int)) then
        some (true)
      else
        (idxO (5 : Int) s).bind fun v12 =>
        (getO x6 v12).bind fun v13 =>
        some ((decide ((255 : Int) < v13))) : Option Bool).bind fun v9 =>
    if v9 then
      some (Sum.inr (Sum.inr (false)))
    else
      some (Sum.inl (w64 (s + (1 : Int))))
  else
    some (Sum.inr (Sum.inl ()))
noncomputable def r05_May (p0 : Msg) : Option Bool :=
  let v6 : List Int := ([Msg.From p0, Msg.To p0, Msg.Line p0, Msg.For p0, Msg.Acks p0] : List Int)
  orExit (
    loopD (r05_May_L1 v6) (0 : Int) : Option (Unit ⊕ Bool)) fun v7 =>
  some (((decide ((0 : Int) < (Msg.Kind p0))) && (decide ((Msg.Kind p0) < (12 : Int)))))
noncomputable def F_r05_May : FnT := ⟨[tMsg], [.bool], fun x => r05_May x⟩
noncomputable def A_r05_May : TA :=
 .prim (.fld 1) [.v 0] <|
 .prim (.fld 2) [.v 0] <|
 .prim (.fld 3) [.v 0] <|
 .prim (.fld 4) [.v 0] <|
 .prim (.fld 5) [.v 0] <|
 .mkA 5 (.int .i64) [.v 1, .v 2, .v 3, .v 4, .v 5] <|
 .sub1 [] (
  .loop [.int .i64] [.c (.int .i64 0)] (
   .prim (.bin .lss) [.v 7, .c (.int .i64 5)] <|
   .ite (.v 8) (
    .sub0 [.bool] (
     .prim (.idxn 5) [.v 7] <|
     .prim .get [.v 6, .v 9] <|
     .prim (.bin .lss) [.v 10, .c (.int .i64 0)] <|
     .ite (.v 11) (
      .jmp 0 false [.c (.bool true)]) (
      .prim (.idxn 5) [.v 7] <|
      .prim .get [.v 6, .v 12] <|
      .prim (.bin .gtr) [.v 13, .c (.int .i64 255)] <|
      .jmp 0 false [.v 14])) 1 <|
    .ite (.v 9) (
     .jmp 2 false [.c (.bool false)]) (
     .prim (.bin .add) [.v 7, .c (.int .i64 1)] <|
     .jmp 0 true [.v 10])) (
    .jmp 1 false []))) 0 <|
 .subp [.bool] (
  .prim (.fld 0) [.v 0] <|
  .prim (.bin .gtr) [.v 7, .c (.int .i64 0)] <|
  .ite (.v 8) (
   .prim (.fld 0) [.v 0] <|
   .prim (.bin .lss) [.v 9, .c (.int .i64 12)] <|
   .jmp 0 false [.v 10]) (
   .jmp 0 false [.c (.bool false)])) 1 <|
 .jmp 0 false [.v 7]
theorem a_r05_May : treeOf cx 12 51 = some A_r05_May.erase := by kernel_rfl
theorem k_r05_May : FnOk cx 12 noC 51 F_r05_May := fn_ok (t := A_r05_May) a_r05_May (fun _ => rfl) (ok_of [] (by kernel_rfl) .nil) (fun x => by kernel_rfl)

/-! 52: backstay/frame.Sum -/
noncomputable def frame_Sum_L1 (s : (Int × Int)) : Option ((Int × Int) ⊕ Int) :=
  if decide (s.2 < (8 : Int)) then
    (shrO .u32 s.1 (1 : Int)).bind fun v13 =>
    some (Sum.inl (bif decide ((bAnd .u32 s.1 (1 : Int)) = (1 : Int)) then bXor .u32 v13 (3988292384 : Int) else v13, w64 (s.2 + (1 : Int))))
  else
    some (Sum.inr (s.1))
noncomputable def frame_Sum_L2 (x0 : List Int) (x1 : Int) (s : (Int × Int)) : Option ((Int × Int) ⊕ Int) :=
  if decide (s.2 < x1) then
    (getO x0 s.2).bind fun v5 =>
    (
      loopD frame_Sum_L1 (bXor .u32 s.1 (wu32 v5), (0 : Int)) : Option Int).bind fun v8 =>
    some (Sum.inl (v8, w64 (s.2 + (1 : Int))))
  else
    some (Sum.inr (s.1))
noncomputable def frame_Sum (p0 : List Int) : Option Int :=
  let v1 : Int := (List.length p0 : Int)
  (
    loopD (frame_Sum_L2 p0 v1) ((4294967295 : Int), (0 : Int)) : Option Int).bind fun v2 =>
  some ((bNot .u32 v2))
noncomputable def F_frame_Sum : FnT := ⟨[.sl (.int .u8)], [.int .u32], fun x => frame_Sum x⟩
noncomputable def A_frame_Sum : TA :=
 .prim .len [.v 0] <|
 .sub0 [.int .u32] (
  .loop [.int .u32, .int .i64] [.c (.int .u32 4294967295), .c (.int .i64 0)] (
   .prim (.bin .lss) [.v 3, .v 1] <|
   .ite (.v 4) (
    .prim .get [.v 0, .v 3] <|
    .prim (.conv .u32) [.v 5] <|
    .prim (.bin .xor) [.v 2, .v 6] <|
    .sub0 [.int .u32] (
     .loop [.int .u32, .int .i64] [.v 7, .c (.int .i64 0)] (
      .prim (.bin .lss) [.v 9, .c (.int .i64 8)] <|
      .ite (.v 10) (
       .prim (.bin .and) [.v 8, .c (.int .u32 1)] <|
       .prim (.bin .eql) [.v 11, .c (.int .u32 1)] <|
       .prim (.bin .shr) [.v 8, .c (.int .u64 1)] <|
       .subp [.int .u32] (
        .ite (.v 12) (
         .prim (.bin .xor) [.v 13, .c (.int .u32 3988292384)] <|
         .jmp 0 false [.v 14]) (
         .jmp 0 false [.v 13])) 1 <|
       .prim (.bin .add) [.v 9, .c (.int .i64 1)] <|
       .jmp 0 true [.v 14, .v 15]) (
       .jmp 1 false [.v 8]))) 1 <|
    .prim (.bin .add) [.v 3, .c (.int .i64 1)] <|
    .jmp 0 true [.v 8, .v 9]) (
    .jmp 1 false [.v 2]))) 1 <|
 .prim (.un .xor) [.v 2] <|
 .jmp 0 false [.v 3]
theorem a_frame_Sum : treeOf cx 12 52 = some A_frame_Sum.erase := by kernel_rfl
theorem k_frame_Sum : FnOk cx 12 noC 52 F_frame_Sum := fn_ok (t := A_frame_Sum) a_frame_Sum (fun _ => rfl) (ok_of [] (by kernel_rfl) .nil) (fun x => by kernel_rfl)

/-! 53: backstay/backstayref05.Sum -/
noncomputable def r05_Sum_L1 (s : (Int × Int)) : Option ((Int × Int) ⊕ Int) :=
  if decide (s.2 < (8 : Int)) then
    (remO s.1 (2 : Int)).bind fun v11 =>
    (
      if decide (v11 = (1 : Int)) then
        (quoO .u32 s.1 (2 : Int)).bind fun v13 =>
        some ((bXor .u32 v13 (3988292384 : Int)))
      else
        (quoO .u32 s.1 (2 : Int)).bind fun v13 =>
        some (v13) : Option Int).bind fun v13 =>
    some (Sum.inl (v13, w64 (s.2 + (1 : Int))))
  else
    some (Sum.inr (s.1))
noncomputable def r05_Sum_L2 (x0 : List Int) (s : (Int × Int)) : Option ((Int × Int) ⊕ Int) :=
  if decide (s.2 < (List.length x0 : Int)) then
    (getO x0 s.2).bind fun v5 =>
    (
      loopD r05_Sum_L1 (bXor .u32 s.1 (wu32 v5), (0 : Int)) : Option Int).bind fun v8 =>
    some (Sum.inl (v8, w64 (s.2 + (1 : Int))))
  else
    some (Sum.inr (s.1))
noncomputable def r05_Sum (p0 : List Int) : Option Int :=
  (
    loopD (r05_Sum_L2 p0) ((4294967295 : Int), (0 : Int)) : Option Int).bind fun v1 =>
  some ((wu32 ((4294967295 : Int) - v1)))
noncomputable def F_r05_Sum : FnT := ⟨[.sl (.int .u8)], [.int .u32], fun x => r05_Sum x⟩
noncomputable def A_r05_Sum : TA :=
 .sub0 [.int .u32] (
  .loop [.int .u32, .int .i64] [.c (.int .u32 4294967295), .c (.int .i64 0)] (
   .prim .len [.v 0] <|
   .prim (.bin .lss) [.v 2, .v 3] <|
   .ite (.v 4) (
    .prim .get [.v 0, .v 2] <|
    .prim (.conv .u32) [.v 5] <|
    .prim (.bin .xor) [.v 1, .v 6] <|
    .sub0 [.int .u32] (
     .loop [.int .u32, .int .i64] [.v 7, .c (.int .i64 0)] (
      .prim (.bin .lss) [.v 9, .c (.int .i64 8)] <|
      .ite (.v 10) (
       .prim (.bin .rem) [.v 8, .c (.int .u32 2)] <|
       .prim (.bin .eql) [.v 11, .c (.int .u32 1)] <|
       .sub0 [.int .u32] (
        .ite (.v 12) (
         .prim (.bin .quo) [.v 8, .c (.int .u32 2)] <|
         .prim (.bin .xor) [.v 13, .c (.int .u32 3988292384)] <|
         .jmp 0 false [.v 14]) (
         .prim (.bin .quo) [.v 8, .c (.int .u32 2)] <|
         .jmp 0 false [.v 13])) 1 <|
       .prim (.bin .add) [.v 9, .c (.int .i64 1)] <|
       .jmp 0 true [.v 13, .v 14]) (
       .jmp 1 false [.v 8]))) 1 <|
    .prim (.bin .add) [.v 2, .c (.int .i64 1)] <|
    .jmp 0 true [.v 8, .v 9]) (
    .jmp 1 false [.v 1]))) 1 <|
 .prim (.bin .sub) [.c (.int .u32 4294967295), .v 1] <|
 .jmp 0 false [.v 2]
theorem a_r05_Sum : treeOf cx 12 53 = some A_r05_Sum.erase := by kernel_rfl
theorem k_r05_Sum : FnOk cx 12 noC 53 F_r05_Sum := fn_ok (t := A_r05_Sum) a_r05_Sum (fun _ => rfl) (ok_of [] (by kernel_rfl) .nil) (fun x => by kernel_rfl)

/-! 80: backstay/backstayref01.Bytes -/
noncomputable def r01_Bytes (p0 : Int) : Option (List Int) :=
  (quoO .u32 p0 (16777216 : Int)).bind fun v1 =>
  (quoO .u32 p0 (65536 : Int)).bind fun v3 =>
  (remO v3 (256 : Int)).bind fun v4 =>
  (quoO .u32 p0 (256 : Int)).bind fun v6 =>
  (remO v6 (256 : Int)).bind fun v7 =>
  (remO p0 (256 : Int)).bind fun v9 =>
  some (([wu8 v1, wu8 v4, wu8 v7, wu8 v9] : List Int))
noncomputable def F_r01_Bytes : FnT := ⟨[.int .u32], [.sl (.int .u8)], fun x => r01_Bytes x⟩
noncomputable def A_r01_Bytes : TA :=
 .prim (.bin .quo) [.v 0, .c (.int .u32 16777216)] <|
 .prim (.conv .u8) [.v 1] <|
 .prim (.bin .quo) [.v 0, .c (.int .u32 65536)] <|
 .prim (.bin .rem) [.v 3, .c (.int .u32 256)] <|
 .prim (.conv .u8) [.v 4] <|
 .prim (.bin .quo) [.v 0, .c (.int .u32 256)] <|
 .prim (.bin .rem) [.v 6, .c (.int .u32 256)] <|
 .prim (.conv .u8) [.v 7] <|
 .prim (.bin .rem) [.v 0, .c (.int .u32 256)] <|
 .prim (.conv .u8) [.v 9] <|
 .mkL (.int .u8) [.v 2, .v 5, .v 8, .v 10] <|
 .jmp 0 false [.v 11]
theorem a_r01_Bytes : treeOf cx 12 80 = some A_r01_Bytes.erase := by kernel_rfl
theorem k_r01_Bytes : FnOk cx 12 noC 80 F_r01_Bytes := fn_ok (t := A_r01_Bytes) a_r01_Bytes (fun _ => rfl) (ok_of [] (by kernel_rfl) .nil) (fun x => by kernel_rfl)

/-! 81: backstay/word.Of -/
noncomputable def word_Of_L1 (x1 : List Int) (s : (Int × Int)) : Option ((Int × Int) ⊕ Int) :=
  if decide (s.2 < (4 : Int)) then
    (getO x1 s.2).bind fun v5 =>
    (shlO .u32 s.1 (8 : Int)).bind fun v6 =>
    some (Sum.inl (bOr .u32 v6 (wu32 v5), w64 (s.2 + (1 : Int))))
  else
    some (Sum.inr (s.1))
noncomputable def word_Of (p0 : List Int) : Option Int :=
  let v1 : List Int := cpyT ([(0 : Int), (0 : Int), (0 : Int), (0 : Int)] : List Int) p0
  (
    loopD (word_Of_L1 v1) ((0 : Int), (0 : Int)) : Option Int).bind fun v2 =>
  some (v2)
noncomputable def F_word_Of : FnT := ⟨[.sl (.int .u8)], [.int .u32], fun x => word_Of x⟩
noncomputable def A_word_Of : TA :=
 .primH .cpy (.arr 4 (.int .u8)) [.c (.agg [(.int .u8 0), (.int .u8 0), (.int .u8 0), (.int .u8 0)]), .v 0] <|
 .sub0 [.int .u32] (
  .loop [.int .u32, .int .i64] [.c (.int .u32 0), .c (.int .i64 0)] (
   .prim (.bin .lss) [.v 3, .c (.int .i64 4)] <|
   .ite (.v 4) (
    .prim .get [.v 1, .v 3] <|
    .prim (.bin .shl) [.v 2, .c (.int .u64 8)] <|
    .prim (.conv .u32) [.v 5] <|
    .prim (.bin .or) [.v 6, .v 7] <|
    .prim (.bin .add) [.v 3, .c (.int .i64 1)] <|
    .jmp 0 true [.v 8, .v 9]) (
    .jmp 1 false [.v 2]))) 1 <|
 .jmp 0 false [.v 2]
theorem a_word_Of : treeOf cx 12 81 = some A_word_Of.erase := by kernel_rfl
theorem k_word_Of : FnOk cx 12 noC 81 F_word_Of := fn_ok (t := A_word_Of) a_word_Of (fun _ => rfl) (ok_of [] (by kernel_rfl) .nil) (fun x => by kernel_rfl)

/-! 82: bytes.Equal -/
noncomputable def bytes_Equal (p0 : List Int) (p1 : List Int) : Option Bool :=
  (b2sO p0).bind fun v2 =>
  (b2sO p1).bind fun v3 =>
  some ((decide (v2 = v3)))
noncomputable def F_bytes_Equal : FnT := ⟨[.sl (.int .u8), .sl (.int .u8)], [.bool], fun x => bytes_Equal x.1 x.2⟩
noncomputable def A_bytes_Equal : TA :=
 .prim .b2s [.v 0] <|
 .prim .b2s [.v 1] <|
 .prim (.bin .eql) [.v 2, .v 3] <|
 .jmp 0 false [.v 4]
theorem a_bytes_Equal : treeOf cx 12 82 = some A_bytes_Equal.erase := by kernel_rfl
theorem k_bytes_Equal : FnOk cx 12 noC 82 F_bytes_Equal := fn_ok (t := A_bytes_Equal) a_bytes_Equal (fun _ => rfl) (ok_of [] (by kernel_rfl) .nil) (fun x => by kernel_rfl)

/-! 83: backstay/backstayref01.Of -/
noncomputable def r01_Of_L1 (x0 : List Int) (s : (Int × Int)) : Option ((Int × Int) ⊕ Int) :=
  if decide (s.2 < (4 : Int)) then
    let v4 : Int := wu32 (s.1 * (256 : Int))
    (
      if decide (s.2 < (List.length x0 : Int)) then
        (getO x0 s.2).bind fun v7 =>
        some ((wu32 (v4 + (wu32 v7))))
      else
        some (v4) : Option Int).bind fun v7 =>
    some (Sum.inl (v7, w64 (s.2 + (1 : Int))))
  else
    some (Sum.inr (s.1))
noncomputable def r01_Of (p0 : List Int) : Option Int :=
  (
    loopD (r01_Of_L1 p0) ((0 : Int), (0 : Int)) : Option Int).bind fun v1 =>
  some (v1)
noncomputable def F_r01_Of : FnT := ⟨[.sl (.int .u8)], [.int .u32], fun x => r01_Of x⟩
noncomputable def A_r01_Of : TA :=
 .sub0 [.int .u32] (
  .loop [.int .u32, .int .i64] [.c (.int .u32 0), .c (.int .i64 0)] (
   .prim (.bin .lss) [.v 2, .c (.int .i64 4)] <|
   .ite (.v 3) (
    .prim (.bin .mul) [.v 1, .c (.int .u32 256)] <|
    .prim .len [.v 0] <|
    .prim (.bin .lss) [.v 2, .v 5] <|
    .sub0 [.int .u32] (
     .ite (.v 6) (
      .prim .get [.v 0, .v 2] <|
      .prim (.conv .u32) [.v 7] <|
      .prim (.bin .add) [.v 4, .v 8] <|
      .jmp 0 false [.v 9]) (
      .jmp 0 false [.v 4])) 1 <|
    .prim (.bin .add) [.v 2, .c (.int .i64 1)] <|
    .jmp 0 true [.v 7, .v 8]) (
    .jmp 1 false [.v 1]))) 1 <|
 .jmp 0 false [.v 1]
theorem a_r01_Of : treeOf cx 12 83 = some A_r01_Of.erase := by kernel_rfl
theorem k_r01_Of : FnOk cx 12 noC 83 F_r01_Of := fn_ok (t := A_r01_Of) a_r01_Of (fun _ => rfl) (ok_of [] (by kernel_rfl) .nil) (fun x => by kernel_rfl)

/-! 86: backstay/frame.byteOf -/
def frame_byteOf (p0 : Int) : Bool :=
  (decide ((0 : Int) ≤ p0)) && (decide (p0 ≤ (255 : Int)))
def F_frame_byteOf : PnT := ⟨[.int .i64], [.bool], fun x => frame_byteOf x⟩
def A_frame_byteOf : TA :=
 .subp [.bool] (
  .prim (.bin .geq) [.v 0, .c (.int .i64 0)] <|
  .ite (.v 1) (
   .prim (.bin .leq) [.v 0, .c (.int .i64 255)] <|
   .jmp 0 false [.v 2]) (
   .jmp 0 false [.c (.bool false)])) 1 <|
 .jmp 0 false [.v 1]
theorem a_frame_byteOf : treeOf cx 12 86 = some A_frame_byteOf.erase := by kernel_rfl
theorem k_frame_byteOf : FnOk cx 12 noC 86 F_frame_byteOf.fn := pn_ok (t := A_frame_byteOf) a_frame_byteOf (fun _ => rfl) (ok_of [] (by kernel_rfl) .nil) (fun x => by kernel_rfl)

/-! 97: backstay/word.Bytes -/
noncomputable def word_Bytes (p0 : Int) : Option (List Int) :=
  (shrO .u32 p0 (24 : Int)).bind fun v1 =>
  (shrO .u32 p0 (16 : Int)).bind fun v3 =>
  (shrO .u32 p0 (8 : Int)).bind fun v5 =>
  some (([wu8 v1, wu8 v3, wu8 v5, wu8 p0] : List Int))
noncomputable def F_word_Bytes : FnT := ⟨[.int .u32], [.sl (.int .u8)], fun x => word_Bytes x⟩
noncomputable def A_word_Bytes : TA :=
 .prim (.bin .shr) [.v 0, .c (.int .u64 24)] <|
 .prim (.conv .u8) [.v 1] <|
 .prim (.bin .shr) [.v 0, .c (.int .u64 16)] <|
 .prim (.conv .u8) [.v 3] <|
 .prim (.bin .shr) [.v 0, .c (.int .u64 8)] <|
 .prim (.conv .u8) [.v 5] <|
 .prim (.conv .u8) [.v 0] <|
 .mkL (.int .u8) [.v 2, .v 4, .v 6, .v 7] <|
 .jmp 0 false [.v 8]
theorem a_word_Bytes : treeOf cx 12 97 = some A_word_Bytes.erase := by kernel_rfl
theorem k_word_Bytes : FnOk cx 12 noC 97 F_word_Bytes := fn_ok (t := A_word_Bytes) a_word_Bytes (fun _ => rfl) (ok_of [] (by kernel_rfl) .nil) (fun x => by kernel_rfl)

/-! 49: backstay/backstayref05.Read -/
noncomputable def r05_Read (p0 : List Int) : Option (Msg × Int) :=
  if decide ((List.length p0 : Int) < (19 : Int)) then
    some (((Msg.mk (0 : Int) (0 : Int) (0 : Int) (0 : Int) (0 : Int) (0 : Int) false (0 : Int) (0 : Int)), (3 : Int)))
  else
    if decide ((19 : Int) < (List.length p0 : Int)) then
      some (((Msg.mk (0 : Int) (0 : Int) (0 : Int) (0 : Int) (0 : Int) (0 : Int) false (0 : Int) (0 : Int)), (4 : Int)))
    else
      (subO p0 (0 : Int) (15 : Int)).bind fun v6 =>
      (r05_Sum v6).bind fun v7 =>
      (r01_Bytes v7).bind fun v8 =>
      (b2sO v8).bind fun v9 =>
      (subO p0 (15 : Int) (List.length p0 : Int)).bind fun v11 =>
      (b2sO v11).bind fun v12 =>
      if !decide (v9 = v12) then
        some (((Msg.mk (0 : Int) (0 : Int) (0 : Int) (0 : Int) (0 : Int) (0 : Int) false (0 : Int) (0 : Int)), (5 : Int)))
      else
        (
          (getO p0 (0 : Int)).bind fun v14 =>
          if decide (v14 = (0 : Int)) then
            some (true)
          else
            (getO p0 (0 : Int)).bind fun v16 =>
            if decide ((11 : Int) < v16) then
              some (true)
            else
              (getO p0 (6 : Int)).bind fun v18 =>
              some ((decide ((1 : Int) < v18))) : Option Bool).bind fun v14 =>
        if v14 then
          some (((Msg.mk (0 : Int) (0 : Int) (0 : Int) (0 : Int) (0 : Int) (0 : Int) false (0 : Int) (0 : Int)), (2 : Int)))
        else
          (getO p0 (0 : Int)).bind fun v15 =>
          (getO p0 (1 : Int)).bind fun v17 =>
          (getO p0 (2 : Int)).bind fun v19 =>
          (getO p0 (3 : Int)).bind fun v21 =>
          (getO p0 (4 : Int)).bind fun v23 =>
          (getO p0 (5 : Int)).bind fun v25 =>
          (getO p0 (6 : Int)).bind fun v27 =>
          (subO p0 (7 : Int) (11 : Int)).bind fun v30 =>
          (r01_Of v30).bind fun v31 =>
          (subO p0 (11 : Int) (15 : Int)).bind fun v33 =>
          (r01_Of v33).bind fun v34 =>
          some ((Msg.mk (w64 v15) (w64 v17) (w64 v19) (w64 v21) (w64 v23) (w64 v25) (decide (v27 = (1 : Int))) v31 v34, (0 : Int)))
noncomputable def F_r05_Read : FnT := ⟨[.sl (.int .u8)], [tMsg, .int .i64], fun x => r05_Read x⟩
noncomputable def A_r05_Read : TA :=
 .prim .len [.v 0] <|
 .prim (.bin .lss) [.v 1, .c (.int .i64 19)] <|
 .ite (.v 2) (
  .jmp 0 false [.c (.agg [(.int .i64 0), (.int .i64 0), (.int .i64 0), (.int .i64 0), (.int .i64 0), (.int .i64 0), (.bool false), (.int .u32 0), (.int .u32 0)]), .c (.int .i64 3)]) (
  .prim .len [.v 0] <|
  .prim (.bin .gtr) [.v 3, .c (.int .i64 19)] <|
  .ite (.v 4) (
   .jmp 0 false [.c (.agg [(.int .i64 0), (.int .i64 0), (.int .i64 0), (.int .i64 0), (.int .i64 0), (.int .i64 0), (.bool false), (.int .u32 0), (.int .u32 0)]), .c (.int .i64 4)]) (
   .prim .len [.v 0] <|
   .prim .sub [.v 0, .c (.int .i64 0), .c (.int .i64 15)] <|
   .call 53 F_r05_Sum [.v 6] 1 <|
   .call 80 F_r01_Bytes [.v 7] 1 <|
   .prim .b2s [.v 8] <|
   .prim .len [.v 0] <|
   .prim .sub [.v 0, .c (.int .i64 15), .v 10] <|
   .prim .b2s [.v 11] <|
   .prim (.bin .neq) [.v 9, .v 12] <|
   .ite (.v 13) (
    .jmp 0 false [.c (.agg [(.int .i64 0), (.int .i64 0), (.int .i64 0), (.int .i64 0), (.int .i64 0), (.int .i64 0), (.bool false), (.int .u32 0), (.int .u32 0)]), .c (.int .i64 5)]) (
    .sub0 [.bool] (
     .prim .get [.v 0, .c (.int .i64 0)] <|
     .prim (.bin .eql) [.v 14, .c (.int .u8 0)] <|
     .ite (.v 15) (
      .jmp 0 false [.c (.bool true)]) (
      .prim .get [.v 0, .c (.int .i64 0)] <|
      .prim (.bin .gtr) [.v 16, .c (.int .u8 11)] <|
      .ite (.v 17) (
       .jmp 0 false [.c (.bool true)]) (
       .prim .get [.v 0, .c (.int .i64 6)] <|
       .prim (.bin .gtr) [.v 18, .c (.int .u8 1)] <|
       .jmp 0 false [.v 19]))) 1 <|
    .ite (.v 14) (
     .jmp 0 false [.c (.agg [(.int .i64 0), (.int .i64 0), (.int .i64 0), (.int .i64 0), (.int .i64 0), (.int .i64 0), (.bool false), (.int .u32 0), (.int .u32 0)]), .c (.int .i64 2)]) (
     .prim .get [.v 0, .c (.int .i64 0)] <|
     .prim (.conv .i64) [.v 15] <|
     .prim .get [.v 0, .c (.int .i64 1)] <|
     .prim (.conv .i64) [.v 17] <|
     .prim .get [.v 0, .c (.int .i64 2)] <|
     .prim (.conv .i64) [.v 19] <|
     .prim .get [.v 0, .c (.int .i64 3)] <|
     .prim (.conv .i64) [.v 21] <|
     .prim .get [.v 0, .c (.int .i64 4)] <|
     .prim (.conv .i64) [.v 23] <|
     .prim .get [.v 0, .c (.int .i64 5)] <|
     .prim (.conv .i64) [.v 25] <|
     .prim .get [.v 0, .c (.int .i64 6)] <|
     .prim (.bin .eql) [.v 27, .c (.int .u8 1)] <|
     .prim .len [.v 0] <|
     .prim .sub [.v 0, .c (.int .i64 7), .c (.int .i64 11)] <|
     .call 83 F_r01_Of [.v 30] 1 <|
     .prim .len [.v 0] <|
     .prim .sub [.v 0, .c (.int .i64 11), .c (.int .i64 15)] <|
     .call 83 F_r01_Of [.v 33] 1 <|
     .mkS tsMsg [.v 16, .v 18, .v 20, .v 22, .v 24, .v 26, .v 28, .v 31, .v 34] <|
     .jmp 0 false [.v 35, .c (.int .i64 0)]))))
theorem a_r05_Read : treeOf cx 12 49 = some A_r05_Read.erase := by kernel_rfl
theorem k_r05_Read : FnOk cx 12 noC 49 F_r05_Read := fn_ok (t := A_r05_Read) a_r05_Read (fun _ => rfl) (ok_of [(53, F_r05_Sum), (80, F_r01_Bytes), (83, F_r01_Of), (83, F_r01_Of)] (by kernel_rfl) (.cons k_r05_Sum (.cons k_r01_Bytes (.cons k_r01_Of (.cons k_r01_Of .nil))))) (fun x => by kernel_rfl)

/-! 85: backstay/frame.May$1 -/
def frame_May_1 (p0 : Int) : Bool :=
  !(frame_byteOf p0)
def F_frame_May_1 : PnT := ⟨[.int .i64], [.bool], fun x => frame_May_1 x⟩
def A_frame_May_1 : TA :=
 .callp 86 F_frame_byteOf [.v 0] 1 <|
 .prim (.un .not) [.v 1] <|
 .jmp 0 false [.v 2]
theorem a_frame_May_1 : treeOf cx 12 85 = some A_frame_May_1.erase := by kernel_rfl
theorem k_frame_May_1 : FnOk cx 12 noC 85 F_frame_May_1.fn := pn_ok (t := A_frame_May_1) a_frame_May_1 (fun _ => rfl) (ok_of [(86, F_frame_byteOf.fn)] (by kernel_rfl) (.cons k_frame_byteOf .nil)) (fun x => by kernel_rfl)

/-! 50: backstay/frame.May -/
noncomputable def frame_May_L1 (x6 : List Int) (x7 : Int) (s : Int) : Option (Int ⊕ Unit ⊕ Int) :=
  if decide (s < x7) then
    (idxO (List.length x6 : Int) s).bind fun v10 =>
    (getO x6 v10).bind fun v11 =>
    if frame_May_1 v11 then
      some (Sum.inr (Sum.inr (s)))
    else
      some (Sum.inl (w64 (s + (1 : Int))))
  else
    some (Sum.inr (Sum.inl ()))
noncomputable def frame_May (p0 : Msg) : Option Bool :=
  let v6 : List Int := ([Msg.From p0, Msg.To p0, Msg.Line p0, Msg.For p0, Msg.Acks p0] : List Int)
  (
    (
      let v7 : Int := (List.length v6 : Int)
      orExit (
        loopD (frame_May_L1 v6 v7) (0 : Int) : Option (Unit ⊕ Int)) fun v8 =>
      some ((-1 : Int)) : Option Int).bind fun v7 =>
    some ((decide ((0 : Int) ≤ v7))) : Option Bool).bind fun v7 =>
  some (((!v7) && ((decide ((1 : Int) ≤ (Msg.Kind p0))) && (decide ((Msg.Kind p0) ≤ (11 : Int))))))
noncomputable def F_frame_May : FnT := ⟨[tMsg], [.bool], fun x => frame_May x⟩
noncomputable def A_frame_May : TA :=
 .prim (.fld 1) [.v 0] <|
 .prim (.fld 2) [.v 0] <|
 .prim (.fld 3) [.v 0] <|
 .prim (.fld 4) [.v 0] <|
 .prim (.fld 5) [.v 0] <|
 .mkL (.int .i64) [.v 1, .v 2, .v 3, .v 4, .v 5] <|
 .sub0 [.bool] (
  .sub0 [.int .i64] (
   .prim .len [.v 6] <|
   .sub1 [] (
    .loop [.int .i64] [.c (.int .i64 0)] (
     .prim (.bin .lss) [.v 8, .v 7] <|
     .ite (.v 9) (
      .prim .idx [.v 6, .v 8] <|
      .prim .get [.v 6, .v 10] <|
      .callp 85 F_frame_May_1 [.v 11] 1 <|
      .ite (.v 12) (
       .jmp 2 false [.v 8]) (
       .prim (.bin .add) [.v 8, .c (.int .i64 1)] <|
       .jmp 0 true [.v 13])) (
      .jmp 1 false []))) 0 <|
   .jmp 0 false [.c (.int .i64 (-1))]) 1 <|
  .prim (.bin .geq) [.v 7, .c (.int .i64 0)] <|
  .jmp 0 false [.v 8]) 1 <|
 .prim (.un .not) [.v 7] <|
 .subp [.bool] (
  .ite (.v 8) (
   .prim (.fld 0) [.v 0] <|
   .prim (.bin .geq) [.v 9, .c (.int .i64 1)] <|
   .ite (.v 10) (
    .prim (.fld 0) [.v 0] <|
    .prim (.bin .leq) [.v 11, .c (.int .i64 11)] <|
    .jmp 0 false [.v 12]) (
    .jmp 0 false [.c (.bool false)])) (
   .jmp 0 false [.c (.bool false)])) 1 <|
 .jmp 0 false [.v 9]
theorem a_frame_May : treeOf cx 12 50 = some A_frame_May.erase := by kernel_rfl
theorem k_frame_May : FnOk cx 12 noC 50 F_frame_May := fn_ok (t := A_frame_May) a_frame_May (fun _ => rfl) (ok_of [(85, F_frame_May_1.fn)] (by kernel_rfl) (.cons k_frame_May_1 .nil)) (fun x => by kernel_rfl)

/-! 48: backstay/frame.Read -/
noncomputable def frame_Read_L1 (x54 : List (List Int)) (x59 : Int) (s : (Int × Int × (List Int))) : Option ((Int × Int × (List Int)) ⊕ (Int × (List Int))) :=
  if decide (s.2.1 < x59) then
    (idxO (List.length x54 : Int) s.2.1).bind fun v64 =>
    (getO x54 v64).bind fun v65 =>
    (appvO 1 s.2.2 s.1 v65).bind fun v66 =>
    some (Sum.inl (s.1 + (List.length v65 : Int), w64 (s.2.1 + (1 : Int)), v66))
  else
    some (Sum.inr ((s.1, s.2.2)))
noncomputable def frame_Read_L2 (x54 : List (List Int)) (x55 : Int) (s : (Int × Int)) : Option ((Int × Int) ⊕ Int) :=
  if decide (s.2 < x55) then
    (idxO (List.length x54 : Int) s.2).bind fun v59 =>
    (getO x54 v59).bind fun v60 =>
    let v62 : Int := w64 (s.1 + (List.length v60 : Int))
    if decide (v62 < (0 : Int)) then
      none
    else
      some (Sum.inl (v62, w64 (s.2 + (1 : Int))))
  else
    some (Sum.inr (s.1))
noncomputable def frame_Read (p0 : List Int) : Option (Msg × Int) :=
  if decide ((List.length p0 : Int) < (19 : Int)) then
    some (((Msg.mk (0 : Int) (0 : Int) (0 : Int) (0 : Int) (0 : Int) (0 : Int) false (0 : Int) (0 : Int)), (3 : Int)))
  else
    if decide ((19 : Int) < (List.length p0 : Int)) then
      some (((Msg.mk (0 : Int) (0 : Int) (0 : Int) (0 : Int) (0 : Int) (0 : Int) false (0 : Int) (0 : Int)), (4 : Int)))
    else
      (subO p0 (15 : Int) (List.length p0 : Int)).bind fun v6 =>
      (word_Of v6).bind fun v7 =>
      (subO p0 (0 : Int) (15 : Int)).bind fun v9 =>
      (frame_Sum v9).bind fun v10 =>
      if !decide (v7 = v10) then
        some (((Msg.mk (0 : Int) (0 : Int) (0 : Int) (0 : Int) (0 : Int) (0 : Int) false (0 : Int) (0 : Int)), (5 : Int)))
      else
        (getO p0 (0 : Int)).bind fun v12 =>
        (getO p0 (1 : Int)).bind fun v14 =>
        (getO p0 (2 : Int)).bind fun v16 =>
        (getO p0 (3 : Int)).bind fun v18 =>
        (getO p0 (4 : Int)).bind fun v20 =>
        (getO p0 (5 : Int)).bind fun v22 =>
        (getO p0 (6 : Int)).bind fun v24 =>
        (subO p0 (7 : Int) (List.length p0 : Int)).bind fun v27 =>
        (word_Of v27).bind fun v28 =>
        (subO p0 (11 : Int) (List.length p0 : Int)).bind fun v30 =>
        (word_Of v30).bind fun v31 =>
        let v32 : Msg := Msg.mk (w64 v12) (w64 v14) (w64 v16) (w64 v18) (w64 v20) (w64 v22) (decide (v24 = (1 : Int))) v28 v31
        (
          (frame_May v32).bind fun v33 =>
          if !v33 then
            some (true)
          else
            (
              (word_Bytes (Msg.Num v32)).bind fun v51 =>
              (word_Bytes (Msg.Val v32)).bind fun v53 =>
              let v54 : List (List Int) := ([([wu8 (Msg.Kind v32), wu8 (Msg.From v32), wu8 (Msg.To v32), wu8 (Msg.Line v32), wu8 (Msg.For v32), wu8 (Msg.Acks v32), bif Msg.Own v32 then (1 : Int) else (0 : Int)] : List Int), v51, v53] : List (List Int))
              (
                let v55 : Int := (List.length v54 : Int)
                (
                  loopD (frame_Read_L2 v54 v55) ((0 : Int), (0 : Int)) : Option Int).bind fun v56 =>
                (
                  if decide (v56 < (0 : Int)) then
                    none
                  else
                    let v58 : Int := w64 (v56 - (0 : Int))
                    (
                      if decide ((0 : Int) < v58) then
                        (zextO (0 : Int) 1 ([] : List Int) v58).bind fun v60 =>
                        (rngO (List.length v60 : Int) (0 : Int) (0 : Int)).bind fun v62 =>
                        some ((v62, v60))
                      else
                        some (((0 : Int), ([] : List Int))) : Option (Int × (List Int))).bind fun v60 =>
                    some ((v60.1, v60.2)) : Option (Int × (List Int))).bind fun v57 =>
                let v59 : Int := (List.length v54 : Int)
                (
                  loopD (frame_Read_L1 v54 v59) (v57.1, (0 : Int), v57.2) : Option (Int × (List Int))).bind fun v60 =>
                some ((v60.1, v60.2)) : Option (Int × (List Int))).bind fun v55 =>
              (subO v55.2 (0 : Int) v55.1).bind fun v57 =>
              (frame_Sum v57).bind fun v58 =>
              (word_Bytes v58).bind fun v59 =>
              (appvO 1 v55.2 v55.1 v59).bind fun v60 =>
              some ((v55.1 + (List.length v59 : Int), v60)) : Option (Int × (List Int))).bind fun v35 =>
            (subO v35.2 (0 : Int) v35.1).bind fun v37 =>
            (bytes_Equal v37 p0).bind fun v38 =>
            some ((!v38)) : Option Bool).bind fun v33 =>
        if v33 then
          some (((Msg.mk (0 : Int) (0 : Int) (0 : Int) (0 : Int) (0 : Int) (0 : Int) false (0 : Int) (0 : Int)), (2 : Int)))
        else
          some ((v32, (0 : Int)))
noncomputable def F_frame_Read : FnT := ⟨[.sl (.int .u8)], [tMsg, .int .i64], fun x => frame_Read x⟩
noncomputable def A_frame_Read : TA :=
 .prim .len [.v 0] <|
 .prim (.bin .lss) [.v 1, .c (.int .i64 19)] <|
 .ite (.v 2) (
  .jmp 0 false [.c (.agg [(.int .i64 0), (.int .i64 0), (.int .i64 0), (.int .i64 0), (.int .i64 0), (.int .i64 0), (.bool false), (.int .u32 0), (.int .u32 0)]), .c (.int .i64 3)]) (
  .prim .len [.v 0] <|
  .prim (.bin .gtr) [.v 3, .c (.int .i64 19)] <|
  .ite (.v 4) (
   .jmp 0 false [.c (.agg [(.int .i64 0), (.int .i64 0), (.int .i64 0), (.int .i64 0), (.int .i64 0), (.int .i64 0), (.bool false), (.int .u32 0), (.int .u32 0)]), .c (.int .i64 4)]) (
   .prim .len [.v 0] <|
   .prim .sub [.v 0, .c (.int .i64 15), .v 5] <|
   .call 81 F_word_Of [.v 6] 1 <|
   .prim .len [.v 0] <|
   .prim .sub [.v 0, .c (.int .i64 0), .c (.int .i64 15)] <|
   .call 52 F_frame_Sum [.v 9] 1 <|
   .prim (.bin .neq) [.v 7, .v 10] <|
   .ite (.v 11) (
    .jmp 0 false [.c (.agg [(.int .i64 0), (.int .i64 0), (.int .i64 0), (.int .i64 0), (.int .i64 0), (.int .i64 0), (.bool false), (.int .u32 0), (.int .u32 0)]), .c (.int .i64 5)]) (
    .prim .get [.v 0, .c (.int .i64 0)] <|
    .prim (.conv .i64) [.v 12] <|
    .prim .get [.v 0, .c (.int .i64 1)] <|
    .prim (.conv .i64) [.v 14] <|
    .prim .get [.v 0, .c (.int .i64 2)] <|
    .prim (.conv .i64) [.v 16] <|
    .prim .get [.v 0, .c (.int .i64 3)] <|
    .prim (.conv .i64) [.v 18] <|
    .prim .get [.v 0, .c (.int .i64 4)] <|
    .prim (.conv .i64) [.v 20] <|
    .prim .get [.v 0, .c (.int .i64 5)] <|
    .prim (.conv .i64) [.v 22] <|
    .prim .get [.v 0, .c (.int .i64 6)] <|
    .prim (.bin .eql) [.v 24, .c (.int .u8 1)] <|
    .prim .len [.v 0] <|
    .prim .sub [.v 0, .c (.int .i64 7), .v 26] <|
    .call 81 F_word_Of [.v 27] 1 <|
    .prim .len [.v 0] <|
    .prim .sub [.v 0, .c (.int .i64 11), .v 29] <|
    .call 81 F_word_Of [.v 30] 1 <|
    .mkS tsMsg [.v 13, .v 15, .v 17, .v 19, .v 21, .v 23, .v 25, .v 28, .v 31] <|
    .sub0 [.bool] (
     .call 50 F_frame_May [.v 32] 1 <|
     .prim (.un .not) [.v 33] <|
     .ite (.v 34) (
      .jmp 0 false [.c (.bool true)]) (
      .sub0 [.int .i64, .sl (.int .u8)] (
       .prim (.fld 6) [.v 32] <|
       .subp [.int .u8] (
        .ite (.v 35) (
         .jmp 0 false [.c (.int .u8 1)]) (
         .jmp 0 false [.c (.int .u8 0)])) 1 <|
       .prim (.fld 0) [.v 32] <|
       .prim (.conv .u8) [.v 37] <|
       .prim (.fld 1) [.v 32] <|
       .prim (.conv .u8) [.v 39] <|
       .prim (.fld 2) [.v 32] <|
       .prim (.conv .u8) [.v 41] <|
       .prim (.fld 3) [.v 32] <|
       .prim (.conv .u8) [.v 43] <|
       .prim (.fld 4) [.v 32] <|
       .prim (.conv .u8) [.v 45] <|
       .prim (.fld 5) [.v 32] <|
       .prim (.conv .u8) [.v 47] <|
       .mkL (.int .u8) [.v 38, .v 40, .v 42, .v 44, .v 46, .v 48, .v 36] <|
       .prim (.fld 7) [.v 32] <|
       .call 97 F_word_Bytes [.v 50] 1 <|
       .prim (.fld 8) [.v 32] <|
       .call 97 F_word_Bytes [.v 52] 1 <|
       .mkL (.sl (.int .u8)) [.v 49, .v 51, .v 53] <|
       .sub0 [.int .i64, .sl (.int .u8)] (
        .prim .len [.v 54] <|
        .sub0 [.int .i64] (
         .loop [.int .i64, .int .i64] [.c (.int .i64 0), .c (.int .i64 0)] (
          .prim (.bin .lss) [.v 57, .v 55] <|
          .ite (.v 58) (
           .prim .idx [.v 54, .v 57] <|
           .prim .get [.v 54, .v 59] <|
           .prim .len [.v 60] <|
           .prim (.bin .add) [.v 56, .v 61] <|
           .prim (.bin .lss) [.v 62, .c (.int .i64 0)] <|
           .ite (.v 63) (
            .fail 153) (
            .prim (.bin .add) [.v 57, .c (.int .i64 1)] <|
            .jmp 0 true [.v 62, .v 64])) (
           .jmp 1 false [.v 56]))) 1 <|
        .sub0 [.int .i64, .sl (.int .u8)] (
         .prim (.bin .lss) [.v 56, .c (.int .i64 0)] <|
         .ite (.v 57) (
          .fail 153) (
          .prim (.bin .sub) [.v 56, .c (.int .i64 0)] <|
          .prim (.bin .gtr) [.v 58, .c (.int .i64 0)] <|
          .sub0 [.int .i64, .sl (.int .u8)] (
           .ite (.v 59) (
            .primH (.zext (.int .u8 0) 1) (.sl (.int .u8)) [.c .nil, .v 58] <|
            .prim .len [.v 60] <|
            .prim .rng [.v 60, .c (.int .i64 0), .c (.int .i64 0)] <|
            .jmp 0 false [.v 62, .v 60]) (
            .jmp 0 false [.c (.int .i64 0), .c .nil])) 2 <|
          .jmp 0 false [.v 60, .v 61])) 2 <|
        .prim .len [.v 54] <|
        .sub0 [.int .i64, .sl (.int .u8)] (
         .loop [.int .i64, .int .i64, .sl (.int .u8)] [.v 57, .c (.int .i64 0), .v 58] (
          .prim (.bin .lss) [.v 61, .v 59] <|
          .ite (.v 63) (
           .prim .idx [.v 54, .v 61] <|
           .prim .get [.v 54, .v 64] <|
           .prim (.appv 1) [.v 62, .v 60, .v 65] <|
           .prim .len [.v 65] <|
           .prim .vadd [.v 60, .v 67] <|
           .prim (.bin .add) [.v 61, .c (.int .i64 1)] <|
           .jmp 0 true [.v 68, .v 69, .v 66]) (
           .jmp 1 false [.v 60, .v 62]))) 2 <|
        .jmp 0 false [.v 60, .v 61]) 2 <|
       .prim .sub [.v 56, .c (.int .i64 0), .v 55] <|
       .call 52 F_frame_Sum [.v 57] 1 <|
       .call 97 F_word_Bytes [.v 58] 1 <|
       .prim (.appv 1) [.v 56, .v 55, .v 59] <|
       .prim .len [.v 59] <|
       .prim .vadd [.v 55, .v 61] <|
       .jmp 0 false [.v 62, .v 60]) 2 <|
      .prim .sub [.v 36, .c (.int .i64 0), .v 35] <|
      .call 82 F_bytes_Equal [.v 37, .v 0] 1 <|
      .prim (.un .not) [.v 38] <|
      .jmp 0 false [.v 39])) 1 <|
    .ite (.v 33) (
     .jmp 0 false [.c (.agg [(.int .i64 0), (.int .i64 0), (.int .i64 0), (.int .i64 0), (.int .i64 0), (.int .i64 0), (.bool false), (.int .u32 0), (.int .u32 0)]), .c (.int .i64 2)]) (
     .jmp 0 false [.v 32, .c (.int .i64 0)]))))
theorem a_frame_Read : treeOf cx 12 48 = some A_frame_Read.erase := by kernel_rfl
theorem k_frame_Read : FnOk cx 12 noC 48 F_frame_Read := fn_ok (t := A_frame_Read) a_frame_Read (fun _ => rfl) (ok_of [(81, F_word_Of), (52, F_frame_Sum), (81, F_word_Of), (81, F_word_Of), (50, F_frame_May), (97, F_word_Bytes), (97, F_word_Bytes), (52, F_frame_Sum), (97, F_word_Bytes), (82, F_bytes_Equal)] (by kernel_rfl) (.cons k_word_Of (.cons k_frame_Sum (.cons k_word_Of (.cons k_word_Of (.cons k_frame_May (.cons k_word_Bytes (.cons k_word_Bytes (.cons k_frame_Sum (.cons k_word_Bytes (.cons k_bytes_Equal .nil))))))))))) (fun x => by kernel_rfl)

/-! 45: backstay/backstaylaw05.awake -/
def l05_awake : Bool := true
def F_l05_awake : PnT := ⟨[], [.bool], fun _ => l05_awake⟩
theorem k_l05_awake : FnOk cx 12 noC 45 F_l05_awake.fn := fun ds x r hx hr => by
  have hx : ds = [] := hx
  subst hx
  exact ⟨[.bool true], call_now 100 12 (by kernel_rfl), .bool true, rfl, congrArg D.bool (Option.some.inj hr)⟩

end Go.Proofs.Ytklkpogdghiagaa
