/- The types of this cut, and its functions as functions of plain typed data. Printed by a program of this claim's prover; each is checked here to be what the executor makes of the code. -/
import Derived.Test.YtklkpogdghiagaaProg
import Derived.Test.YtklkpogdghiagaaLim
import Derived.KernelRfl
set_option linter.unusedVariables false
set_option maxRecDepth 100000
namespace Go.Proofs.Ytklkpogdghiagaa
open Go.SX
abbrev tsl11_Do : List Ty := [.int .u8, .int .u8, .int .u8, .int .u32]
abbrev tl11_Do : Ty := .st tsl11_Do
abbrev l11_Do : Type := Int × Int × Int × Int
def l11_Do.mk (Kind : Int) (At : Int) (To : Int) (Val : Int) : l11_Do := (Kind, At, To, Val)
def l11_Do.Kind (x : l11_Do) : Int := x.1
def l11_Do.At (x : l11_Do) : Int := x.2.1
def l11_Do.To (x : l11_Do) : Int := x.2.2.1
def l11_Do.Val (x : l11_Do) : Int := x.2.2.2
def l11_Do.setKind (x : l11_Do) (v : Int) : l11_Do := (v, x.2.1, x.2.2.1, x.2.2.2)
def l11_Do.setAt (x : l11_Do) (v : Int) : l11_Do := (x.1, v, x.2.2.1, x.2.2.2)
def l11_Do.setTo (x : l11_Do) (v : Int) : l11_Do := (x.1, x.2.1, v, x.2.2.2)
def l11_Do.setVal (x : l11_Do) (v : Int) : l11_Do := (x.1, x.2.1, x.2.2.1, v)
@[simp] theorem l11_Do.Kind_mk (Kind : Int) (At : Int) (To : Int) (Val : Int) : l11_Do.Kind (l11_Do.mk Kind At To Val) = Kind := rfl
@[simp] theorem l11_Do.At_mk (Kind : Int) (At : Int) (To : Int) (Val : Int) : l11_Do.At (l11_Do.mk Kind At To Val) = At := rfl
@[simp] theorem l11_Do.To_mk (Kind : Int) (At : Int) (To : Int) (Val : Int) : l11_Do.To (l11_Do.mk Kind At To Val) = To := rfl
@[simp] theorem l11_Do.Val_mk (Kind : Int) (At : Int) (To : Int) (Val : Int) : l11_Do.Val (l11_Do.mk Kind At To Val) = Val := rfl
@[simp] theorem l11_Do.setKind_eq (x : l11_Do) (v : Int) : l11_Do.setKind x v = l11_Do.mk v (l11_Do.At x) (l11_Do.To x) (l11_Do.Val x) := rfl
@[simp] theorem l11_Do.setAt_eq (x : l11_Do) (v : Int) : l11_Do.setAt x v = l11_Do.mk (l11_Do.Kind x) v (l11_Do.To x) (l11_Do.Val x) := rfl
@[simp] theorem l11_Do.setTo_eq (x : l11_Do) (v : Int) : l11_Do.setTo x v = l11_Do.mk (l11_Do.Kind x) (l11_Do.At x) v (l11_Do.Val x) := rfl
@[simp] theorem l11_Do.setVal_eq (x : l11_Do) (v : Int) : l11_Do.setVal x v = l11_Do.mk (l11_Do.Kind x) (l11_Do.At x) (l11_Do.To x) v := rfl
@[simp] theorem l11_Do.eta (x : l11_Do) : l11_Do.mk (l11_Do.Kind x) (l11_Do.At x) (l11_Do.To x) (l11_Do.Val x) = x := rfl

abbrev tsruntime_boundsError : List Ty := [.int .i64, .int .i64, .bool, .int .u8]
abbrev truntime_boundsError : Ty := .st tsruntime_boundsError
abbrev runtime_boundsError : Type := Int × Int × Bool × Int
def runtime_boundsError.mk (x : Int) (y : Int) (signed : Bool) (code : Int) : runtime_boundsError := (x, y, signed, code)
def runtime_boundsError.x (x : runtime_boundsError) : Int := x.1
def runtime_boundsError.y (x : runtime_boundsError) : Int := x.2.1
def runtime_boundsError.signed (x : runtime_boundsError) : Bool := x.2.2.1
def runtime_boundsError.code (x : runtime_boundsError) : Int := x.2.2.2
def runtime_boundsError.setx (x : runtime_boundsError) (v : Int) : runtime_boundsError := (v, x.2.1, x.2.2.1, x.2.2.2)
def runtime_boundsError.sety (x : runtime_boundsError) (v : Int) : runtime_boundsError := (x.1, v, x.2.2.1, x.2.2.2)
def runtime_boundsError.setsigned (x : runtime_boundsError) (v : Bool) : runtime_boundsError := (x.1, x.2.1, v, x.2.2.2)
def runtime_boundsError.setcode (x : runtime_boundsError) (v : Int) : runtime_boundsError := (x.1, x.2.1, x.2.2.1, v)
@[simp] theorem runtime_boundsError.x_mk (x : Int) (y : Int) (signed : Bool) (code : Int) : runtime_boundsError.x (runtime_boundsError.mk x y signed code) = x := rfl
@[simp] theorem runtime_boundsError.y_mk (x : Int) (y : Int) (signed : Bool) (code : Int) : runtime_boundsError.y (runtime_boundsError.mk x y signed code) = y := rfl
@[simp] theorem runtime_boundsError.signed_mk (x : Int) (y : Int) (signed : Bool) (code : Int) : runtime_boundsError.signed (runtime_boundsError.mk x y signed code) = signed := rfl
@[simp] theorem runtime_boundsError.code_mk (x : Int) (y : Int) (signed : Bool) (code : Int) : runtime_boundsError.code (runtime_boundsError.mk x y signed code) = code := rfl
@[simp] theorem runtime_boundsError.setx_eq (x : runtime_boundsError) (v : Int) : runtime_boundsError.setx x v = runtime_boundsError.mk v (runtime_boundsError.y x) (runtime_boundsError.signed x) (runtime_boundsError.code x) := rfl
@[simp] theorem runtime_boundsError.sety_eq (x : runtime_boundsError) (v : Int) : runtime_boundsError.sety x v = runtime_boundsError.mk (runtime_boundsError.x x) v (runtime_boundsError.signed x) (runtime_boundsError.code x) := rfl
@[simp] theorem runtime_boundsError.setsigned_eq (x : runtime_boundsError) (v : Bool) : runtime_boundsError.setsigned x v = runtime_boundsError.mk (runtime_boundsError.x x) (runtime_boundsError.y x) v (runtime_boundsError.code x) := rfl
@[simp] theorem runtime_boundsError.setcode_eq (x : runtime_boundsError) (v : Int) : runtime_boundsError.setcode x v = runtime_boundsError.mk (runtime_boundsError.x x) (runtime_boundsError.y x) (runtime_boundsError.signed x) v := rfl
@[simp] theorem runtime_boundsError.eta (x : runtime_boundsError) : runtime_boundsError.mk (runtime_boundsError.x x) (runtime_boundsError.y x) (runtime_boundsError.signed x) (runtime_boundsError.code x) = x := rfl

abbrev tsMsg : List Ty := [.int .i64, .int .i64, .int .i64, .int .i64, .int .i64, .int .i64, .bool, .int .u32, .int .u32]
abbrev tMsg : Ty := .st tsMsg
abbrev Msg : Type := Int × Int × Int × Int × Int × Int × Bool × Int × Int
def Msg.mk (Kind : Int) (From : Int) (To : Int) (Line : Int) (For : Int) (Acks : Int) (Own : Bool) (Num : Int) (Val : Int) : Msg := (Kind, From, To, Line, For, Acks, Own, Num, Val)
def Msg.Kind (x : Msg) : Int := x.1
def Msg.From (x : Msg) : Int := x.2.1
def Msg.To (x : Msg) : Int := x.2.2.1
def Msg.Line (x : Msg) : Int := x.2.2.2.1
def Msg.For (x : Msg) : Int := x.2.2.2.2.1
def Msg.Acks (x : Msg) : Int := x.2.2.2.2.2.1
def Msg.Own (x : Msg) : Bool := x.2.2.2.2.2.2.1
def Msg.Num (x : Msg) : Int := x.2.2.2.2.2.2.2.1
def Msg.Val (x : Msg) : Int := x.2.2.2.2.2.2.2.2
def Msg.setKind (x : Msg) (v : Int) : Msg := (v, x.2.1, x.2.2.1, x.2.2.2.1, x.2.2.2.2.1, x.2.2.2.2.2.1, x.2.2.2.2.2.2.1, x.2.2.2.2.2.2.2.1, x.2.2.2.2.2.2.2.2)
def Msg.setFrom (x : Msg) (v : Int) : Msg := (x.1, v, x.2.2.1, x.2.2.2.1, x.2.2.2.2.1, x.2.2.2.2.2.1, x.2.2.2.2.2.2.1, x.2.2.2.2.2.2.2.1, x.2.2.2.2.2.2.2.2)
def Msg.setTo (x : Msg) (v : Int) : Msg := (x.1, x.2.1, v, x.2.2.2.1, x.2.2.2.2.1, x.2.2.2.2.2.1, x.2.2.2.2.2.2.1, x.2.2.2.2.2.2.2.1, x.2.2.2.2.2.2.2.2)
def Msg.setLine (x : Msg) (v : Int) : Msg := (x.1, x.2.1, x.2.2.1, v, x.2.2.2.2.1, x.2.2.2.2.2.1, x.2.2.2.2.2.2.1, x.2.2.2.2.2.2.2.1, x.2.2.2.2.2.2.2.2)
def Msg.setFor (x : Msg) (v : Int) : Msg := (x.1, x.2.1, x.2.2.1, x.2.2.2.1, v, x.2.2.2.2.2.1, x.2.2.2.2.2.2.1, x.2.2.2.2.2.2.2.1, x.2.2.2.2.2.2.2.2)
def Msg.setAcks (x : Msg) (v : Int) : Msg := (x.1, x.2.1, x.2.2.1, x.2.2.2.1, x.2.2.2.2.1, v, x.2.2.2.2.2.2.1, x.2.2.2.2.2.2.2.1, x.2.2.2.2.2.2.2.2)
def Msg.setOwn (x : Msg) (v : Bool) : Msg := (x.1, x.2.1, x.2.2.1, x.2.2.2.1, x.2.2.2.2.1, x.2.2.2.2.2.1, v, x.2.2.2.2.2.2.2.1, x.2.2.2.2.2.2.2.2)
def Msg.setNum (x : Msg) (v : Int) : Msg := (x.1, x.2.1, x.2.2.1, x.2.2.2.1, x.2.2.2.2.1, x.2.2.2.2.2.1, x.2.2.2.2.2.2.1, v, x.2.2.2.2.2.2.2.2)
def Msg.setVal (x : Msg) (v : Int) : Msg := (x.1, x.2.1, x.2.2.1, x.2.2.2.1, x.2.2.2.2.1, x.2.2.2.2.2.1, x.2.2.2.2.2.2.1, x.2.2.2.2.2.2.2.1, v)
@[simp] theorem Msg.Kind_mk (Kind : Int) (From : Int) (To : Int) (Line : Int) (For : Int) (Acks : Int) (Own : Bool) (Num : Int) (Val : Int) : Msg.Kind (Msg.mk Kind From To Line For Acks Own Num Val) = Kind := rfl
@[simp] theorem Msg.From_mk (Kind : Int) (From : Int) (To : Int) (Line : Int) (For : Int) (Acks : Int) (Own : Bool) (Num : Int) (Val : Int) : Msg.From (Msg.mk Kind From To Line For Acks Own Num Val) = From := rfl
@[simp] theorem Msg.To_mk (Kind : Int) (From : Int) (To : Int) (Line : Int) (For : Int) (Acks : Int) (Own : Bool) (Num : Int) (Val : Int) : Msg.To (Msg.mk Kind From To Line For Acks Own Num Val) = To := rfl
@[simp] theorem Msg.Line_mk (Kind : Int) (From : Int) (To : Int) (Line : Int) (For : Int) (Acks : Int) (Own : Bool) (Num : Int) (Val : Int) : Msg.Line (Msg.mk Kind From To Line For Acks Own Num Val) = Line := rfl
@[simp] theorem Msg.For_mk (Kind : Int) (From : Int) (To : Int) (Line : Int) (For : Int) (Acks : Int) (Own : Bool) (Num : Int) (Val : Int) : Msg.For (Msg.mk Kind From To Line For Acks Own Num Val) = For := rfl
@[simp] theorem Msg.Acks_mk (Kind : Int) (From : Int) (To : Int) (Line : Int) (For : Int) (Acks : Int) (Own : Bool) (Num : Int) (Val : Int) : Msg.Acks (Msg.mk Kind From To Line For Acks Own Num Val) = Acks := rfl
@[simp] theorem Msg.Own_mk (Kind : Int) (From : Int) (To : Int) (Line : Int) (For : Int) (Acks : Int) (Own : Bool) (Num : Int) (Val : Int) : Msg.Own (Msg.mk Kind From To Line For Acks Own Num Val) = Own := rfl
@[simp] theorem Msg.Num_mk (Kind : Int) (From : Int) (To : Int) (Line : Int) (For : Int) (Acks : Int) (Own : Bool) (Num : Int) (Val : Int) : Msg.Num (Msg.mk Kind From To Line For Acks Own Num Val) = Num := rfl
@[simp] theorem Msg.Val_mk (Kind : Int) (From : Int) (To : Int) (Line : Int) (For : Int) (Acks : Int) (Own : Bool) (Num : Int) (Val : Int) : Msg.Val (Msg.mk Kind From To Line For Acks Own Num Val) = Val := rfl
@[simp] theorem Msg.setKind_eq (x : Msg) (v : Int) : Msg.setKind x v = Msg.mk v (Msg.From x) (Msg.To x) (Msg.Line x) (Msg.For x) (Msg.Acks x) (Msg.Own x) (Msg.Num x) (Msg.Val x) := rfl
@[simp] theorem Msg.setFrom_eq (x : Msg) (v : Int) : Msg.setFrom x v = Msg.mk (Msg.Kind x) v (Msg.To x) (Msg.Line x) (Msg.For x) (Msg.Acks x) (Msg.Own x) (Msg.Num x) (Msg.Val x) := rfl
@[simp] theorem Msg.setTo_eq (x : Msg) (v : Int) : Msg.setTo x v = Msg.mk (Msg.Kind x) (Msg.From x) v (Msg.Line x) (Msg.For x) (Msg.Acks x) (Msg.Own x) (Msg.Num x) (Msg.Val x) := rfl
@[simp] theorem Msg.setLine_eq (x : Msg) (v : Int) : Msg.setLine x v = Msg.mk (Msg.Kind x) (Msg.From x) (Msg.To x) v (Msg.For x) (Msg.Acks x) (Msg.Own x) (Msg.Num x) (Msg.Val x) := rfl
@[simp] theorem Msg.setFor_eq (x : Msg) (v : Int) : Msg.setFor x v = Msg.mk (Msg.Kind x) (Msg.From x) (Msg.To x) (Msg.Line x) v (Msg.Acks x) (Msg.Own x) (Msg.Num x) (Msg.Val x) := rfl
@[simp] theorem Msg.setAcks_eq (x : Msg) (v : Int) : Msg.setAcks x v = Msg.mk (Msg.Kind x) (Msg.From x) (Msg.To x) (Msg.Line x) (Msg.For x) v (Msg.Own x) (Msg.Num x) (Msg.Val x) := rfl
@[simp] theorem Msg.setOwn_eq (x : Msg) (v : Bool) : Msg.setOwn x v = Msg.mk (Msg.Kind x) (Msg.From x) (Msg.To x) (Msg.Line x) (Msg.For x) (Msg.Acks x) v (Msg.Num x) (Msg.Val x) := rfl
@[simp] theorem Msg.setNum_eq (x : Msg) (v : Int) : Msg.setNum x v = Msg.mk (Msg.Kind x) (Msg.From x) (Msg.To x) (Msg.Line x) (Msg.For x) (Msg.Acks x) (Msg.Own x) v (Msg.Val x) := rfl
@[simp] theorem Msg.setVal_eq (x : Msg) (v : Int) : Msg.setVal x v = Msg.mk (Msg.Kind x) (Msg.From x) (Msg.To x) (Msg.Line x) (Msg.For x) (Msg.Acks x) (Msg.Own x) (Msg.Num x) v := rfl
@[simp] theorem Msg.eta (x : Msg) : Msg.mk (Msg.Kind x) (Msg.From x) (Msg.To x) (Msg.Line x) (Msg.For x) (Msg.Acks x) (Msg.Own x) (Msg.Num x) (Msg.Val x) = x := rfl

abbrev tsUndo : List Ty := [.int .i64, .int .i64, .int .u32]
abbrev tUndo : Ty := .st tsUndo
abbrev Undo : Type := Int × Int × Int
def Undo.mk (Span : Int) (At : Int) (Val : Int) : Undo := (Span, At, Val)
def Undo.Span (x : Undo) : Int := x.1
def Undo.At (x : Undo) : Int := x.2.1
def Undo.Val (x : Undo) : Int := x.2.2
def Undo.setSpan (x : Undo) (v : Int) : Undo := (v, x.2.1, x.2.2)
def Undo.setAt (x : Undo) (v : Int) : Undo := (x.1, v, x.2.2)
def Undo.setVal (x : Undo) (v : Int) : Undo := (x.1, x.2.1, v)
@[simp] theorem Undo.Span_mk (Span : Int) (At : Int) (Val : Int) : Undo.Span (Undo.mk Span At Val) = Span := rfl
@[simp] theorem Undo.At_mk (Span : Int) (At : Int) (Val : Int) : Undo.At (Undo.mk Span At Val) = At := rfl
@[simp] theorem Undo.Val_mk (Span : Int) (At : Int) (Val : Int) : Undo.Val (Undo.mk Span At Val) = Val := rfl
@[simp] theorem Undo.setSpan_eq (x : Undo) (v : Int) : Undo.setSpan x v = Undo.mk v (Undo.At x) (Undo.Val x) := rfl
@[simp] theorem Undo.setAt_eq (x : Undo) (v : Int) : Undo.setAt x v = Undo.mk (Undo.Span x) v (Undo.Val x) := rfl
@[simp] theorem Undo.setVal_eq (x : Undo) (v : Int) : Undo.setVal x v = Undo.mk (Undo.Span x) (Undo.At x) v := rfl
@[simp] theorem Undo.eta (x : Undo) : Undo.mk (Undo.Span x) (Undo.At x) (Undo.Val x) = x := rfl

abbrev tsruntime_errorAddressString : List Ty := [.str, .int .u64]
abbrev truntime_errorAddressString : Ty := .st tsruntime_errorAddressString
abbrev runtime_errorAddressString : Type := (List Int) × Int
def runtime_errorAddressString.mk (msg : List Int) (addr : Int) : runtime_errorAddressString := (msg, addr)
def runtime_errorAddressString.msg (x : runtime_errorAddressString) : List Int := x.1
def runtime_errorAddressString.addr (x : runtime_errorAddressString) : Int := x.2
def runtime_errorAddressString.setmsg (x : runtime_errorAddressString) (v : List Int) : runtime_errorAddressString := (v, x.2)
def runtime_errorAddressString.setaddr (x : runtime_errorAddressString) (v : Int) : runtime_errorAddressString := (x.1, v)
@[simp] theorem runtime_errorAddressString.msg_mk (msg : List Int) (addr : Int) : runtime_errorAddressString.msg (runtime_errorAddressString.mk msg addr) = msg := rfl
@[simp] theorem runtime_errorAddressString.addr_mk (msg : List Int) (addr : Int) : runtime_errorAddressString.addr (runtime_errorAddressString.mk msg addr) = addr := rfl
@[simp] theorem runtime_errorAddressString.setmsg_eq (x : runtime_errorAddressString) (v : List Int) : runtime_errorAddressString.setmsg x v = runtime_errorAddressString.mk v (runtime_errorAddressString.addr x) := rfl
@[simp] theorem runtime_errorAddressString.setaddr_eq (x : runtime_errorAddressString) (v : Int) : runtime_errorAddressString.setaddr x v = runtime_errorAddressString.mk (runtime_errorAddressString.msg x) v := rfl
@[simp] theorem runtime_errorAddressString.eta (x : runtime_errorAddressString) : runtime_errorAddressString.mk (runtime_errorAddressString.msg x) (runtime_errorAddressString.addr x) = x := rfl

abbrev tsl12_Do : List Ty := [.int .u8, .int .u8]
abbrev tl12_Do : Ty := .st tsl12_Do
abbrev l12_Do : Type := Int × Int
def l12_Do.mk (Kind : Int) (More : Int) : l12_Do := (Kind, More)
def l12_Do.Kind (x : l12_Do) : Int := x.1
def l12_Do.More (x : l12_Do) : Int := x.2
def l12_Do.setKind (x : l12_Do) (v : Int) : l12_Do := (v, x.2)
def l12_Do.setMore (x : l12_Do) (v : Int) : l12_Do := (x.1, v)
@[simp] theorem l12_Do.Kind_mk (Kind : Int) (More : Int) : l12_Do.Kind (l12_Do.mk Kind More) = Kind := rfl
@[simp] theorem l12_Do.More_mk (Kind : Int) (More : Int) : l12_Do.More (l12_Do.mk Kind More) = More := rfl
@[simp] theorem l12_Do.setKind_eq (x : l12_Do) (v : Int) : l12_Do.setKind x v = l12_Do.mk v (l12_Do.More x) := rfl
@[simp] theorem l12_Do.setMore_eq (x : l12_Do) (v : Int) : l12_Do.setMore x v = l12_Do.mk (l12_Do.Kind x) v := rfl
@[simp] theorem l12_Do.eta (x : l12_Do) : l12_Do.mk (l12_Do.Kind x) (l12_Do.More x) = x := rfl

abbrev tsEntry : List Ty := [.int .i64, .sl .bool]
abbrev tEntry : Ty := .st tsEntry
abbrev Entry : Type := Int × (List Bool)
def Entry.mk (Owner : Int) (Share : List Bool) : Entry := (Owner, Share)
def Entry.Owner (x : Entry) : Int := x.1
def Entry.Share (x : Entry) : List Bool := x.2
def Entry.setOwner (x : Entry) (v : Int) : Entry := (v, x.2)
def Entry.setShare (x : Entry) (v : List Bool) : Entry := (x.1, v)
@[simp] theorem Entry.Owner_mk (Owner : Int) (Share : List Bool) : Entry.Owner (Entry.mk Owner Share) = Owner := rfl
@[simp] theorem Entry.Share_mk (Owner : Int) (Share : List Bool) : Entry.Share (Entry.mk Owner Share) = Share := rfl
@[simp] theorem Entry.setOwner_eq (x : Entry) (v : Int) : Entry.setOwner x v = Entry.mk v (Entry.Share x) := rfl
@[simp] theorem Entry.setShare_eq (x : Entry) (v : List Bool) : Entry.setShare x v = Entry.mk (Entry.Owner x) v := rfl
@[simp] theorem Entry.eta (x : Entry) : Entry.mk (Entry.Owner x) (Entry.Share x) = x := rfl

abbrev tsCore : List Ty := [.arr 8 (.int .u32), .int .i64, .bool]
abbrev tCore : Ty := .st tsCore
abbrev Core : Type := (List Int) × Int × Bool
def Core.mk (Regs : List Int) (PC : Int) (Halted : Bool) : Core := (Regs, PC, Halted)
def Core.Regs (x : Core) : List Int := x.1
def Core.PC (x : Core) : Int := x.2.1
def Core.Halted (x : Core) : Bool := x.2.2
def Core.setRegs (x : Core) (v : List Int) : Core := (v, x.2.1, x.2.2)
def Core.setPC (x : Core) (v : Int) : Core := (x.1, v, x.2.2)
def Core.setHalted (x : Core) (v : Bool) : Core := (x.1, x.2.1, v)
@[simp] theorem Core.Regs_mk (Regs : List Int) (PC : Int) (Halted : Bool) : Core.Regs (Core.mk Regs PC Halted) = Regs := rfl
@[simp] theorem Core.PC_mk (Regs : List Int) (PC : Int) (Halted : Bool) : Core.PC (Core.mk Regs PC Halted) = PC := rfl
@[simp] theorem Core.Halted_mk (Regs : List Int) (PC : Int) (Halted : Bool) : Core.Halted (Core.mk Regs PC Halted) = Halted := rfl
@[simp] theorem Core.setRegs_eq (x : Core) (v : List Int) : Core.setRegs x v = Core.mk v (Core.PC x) (Core.Halted x) := rfl
@[simp] theorem Core.setPC_eq (x : Core) (v : Int) : Core.setPC x v = Core.mk (Core.Regs x) v (Core.Halted x) := rfl
@[simp] theorem Core.setHalted_eq (x : Core) (v : Bool) : Core.setHalted x v = Core.mk (Core.Regs x) (Core.PC x) v := rfl
@[simp] theorem Core.eta (x : Core) : Core.mk (Core.Regs x) (Core.PC x) (Core.Halted x) = x := rfl

abbrev tsLog : List Ty := [.sl (.int .u32), .int .i64, .sl tUndo]
abbrev tLog : Ty := .st tsLog
abbrev Log : Type := (List Int) × Int × (List Undo)
def Log.mk (Mem : List Int) (Span : Int) (Lst : List Undo) : Log := (Mem, Span, Lst)
def Log.Mem (x : Log) : List Int := x.1
def Log.Span (x : Log) : Int := x.2.1
def Log.Lst (x : Log) : List Undo := x.2.2
def Log.setMem (x : Log) (v : List Int) : Log := (v, x.2.1, x.2.2)
def Log.setSpan (x : Log) (v : Int) : Log := (x.1, v, x.2.2)
def Log.setLst (x : Log) (v : List Undo) : Log := (x.1, x.2.1, v)
@[simp] theorem Log.Mem_mk (Mem : List Int) (Span : Int) (Lst : List Undo) : Log.Mem (Log.mk Mem Span Lst) = Mem := rfl
@[simp] theorem Log.Span_mk (Mem : List Int) (Span : Int) (Lst : List Undo) : Log.Span (Log.mk Mem Span Lst) = Span := rfl
@[simp] theorem Log.Lst_mk (Mem : List Int) (Span : Int) (Lst : List Undo) : Log.Lst (Log.mk Mem Span Lst) = Lst := rfl
@[simp] theorem Log.setMem_eq (x : Log) (v : List Int) : Log.setMem x v = Log.mk v (Log.Span x) (Log.Lst x) := rfl
@[simp] theorem Log.setSpan_eq (x : Log) (v : Int) : Log.setSpan x v = Log.mk (Log.Mem x) v (Log.Lst x) := rfl
@[simp] theorem Log.setLst_eq (x : Log) (v : List Undo) : Log.setLst x v = Log.mk (Log.Mem x) (Log.Span x) v := rfl
@[simp] theorem Log.eta (x : Log) : Log.mk (Log.Mem x) (Log.Span x) (Log.Lst x) = x := rfl

abbrev tsMark : List Ty := [.int .i64, .int .i64, .sl tCore]
abbrev tMark : Ty := .st tsMark
abbrev Mark : Type := Int × Int × (List Core)
def Mark.mk (Span : Int) (When : Int) (Cores : List Core) : Mark := (Span, When, Cores)
def Mark.Span (x : Mark) : Int := x.1
def Mark.When (x : Mark) : Int := x.2.1
def Mark.Cores (x : Mark) : List Core := x.2.2
def Mark.setSpan (x : Mark) (v : Int) : Mark := (v, x.2.1, x.2.2)
def Mark.setWhen (x : Mark) (v : Int) : Mark := (x.1, v, x.2.2)
def Mark.setCores (x : Mark) (v : List Core) : Mark := (x.1, x.2.1, v)
@[simp] theorem Mark.Span_mk (Span : Int) (When : Int) (Cores : List Core) : Mark.Span (Mark.mk Span When Cores) = Span := rfl
@[simp] theorem Mark.When_mk (Span : Int) (When : Int) (Cores : List Core) : Mark.When (Mark.mk Span When Cores) = When := rfl
@[simp] theorem Mark.Cores_mk (Span : Int) (When : Int) (Cores : List Core) : Mark.Cores (Mark.mk Span When Cores) = Cores := rfl
@[simp] theorem Mark.setSpan_eq (x : Mark) (v : Int) : Mark.setSpan x v = Mark.mk v (Mark.When x) (Mark.Cores x) := rfl
@[simp] theorem Mark.setWhen_eq (x : Mark) (v : Int) : Mark.setWhen x v = Mark.mk (Mark.Span x) v (Mark.Cores x) := rfl
@[simp] theorem Mark.setCores_eq (x : Mark) (v : List Core) : Mark.setCores x v = Mark.mk (Mark.Span x) (Mark.When x) v := rfl
@[simp] theorem Mark.eta (x : Mark) : Mark.mk (Mark.Span x) (Mark.When x) (Mark.Cores x) = x := rfl

abbrev tsClock : List Ty := [.sl tMark, .int .i64]
abbrev tClock : Ty := .st tsClock
abbrev Clock : Type := (List Mark) × Int
def Clock.mk (Marks : List Mark) (Wait : Int) : Clock := (Marks, Wait)
def Clock.Marks (x : Clock) : List Mark := x.1
def Clock.Wait (x : Clock) : Int := x.2
def Clock.setMarks (x : Clock) (v : List Mark) : Clock := (v, x.2)
def Clock.setWait (x : Clock) (v : Int) : Clock := (x.1, v)
@[simp] theorem Clock.Marks_mk (Marks : List Mark) (Wait : Int) : Clock.Marks (Clock.mk Marks Wait) = Marks := rfl
@[simp] theorem Clock.Wait_mk (Marks : List Mark) (Wait : Int) : Clock.Wait (Clock.mk Marks Wait) = Wait := rfl
@[simp] theorem Clock.setMarks_eq (x : Clock) (v : List Mark) : Clock.setMarks x v = Clock.mk v (Clock.Wait x) := rfl
@[simp] theorem Clock.setWait_eq (x : Clock) (v : Int) : Clock.setWait x v = Clock.mk (Clock.Marks x) v := rfl
@[simp] theorem Clock.eta (x : Clock) : Clock.mk (Clock.Marks x) (Clock.Wait x) = x := rfl

def tys : List Ty := [.no, .no, .int .i64, .int .i64, .bool, .int .u8, .int .u8, truntime_boundsError, truntime_boundsError, .str, .str, .str, .int .u64, truntime_errorAddressString, truntime_errorAddressString, .no, .no, .no, .no, .no, .no, .int .i32, .sl (.int .u8), .no, .sl .bool, tEntry, tEntry, .int .i64, .no, .no, .no, .no, .sl (.int .i64), .no, .no, .no, .no, .sl tMark, tClock, tClock, .int .u16, .no, .no, .no, .no, .sl tCore, tMark, tMark, .no, .no, .no, .no, .no, .no, .no, .no, .no, .no, .no, .no, .no, .no, .no, .no, .no, .no, .sl tl12_Do, .no, tl12_Do, tl12_Do, .no, .no, .no, .no, .sl (.int .u32), .sl tUndo, tLog, tLog, .no, .no, .no, .no, .int .u32, tUndo, tUndo, .no, .no, .no, tMsg, tMsg, .no, .no, .no, .no, .no, .no, .no, .no, .no, .no, .no, .int .u64, .no, .no, .no, .no, .no, .no, .no, .no, .no, .sl tl11_Do, .sl (.sl (.int .u32)), tl11_Do, tl11_Do, .no, .no, .no, .no, .arr 8 (.int .u32), tCore, tCore, .no, .no, .no, .no, .no, .no, .no, .no, .no, .no, .no, .no, .no, .no, .no, .arr 5 (.int .i64), .no, .no, .no, .arr 2 (.int .i64), .no, .no, .no, .no, .no, .no, .no, .arr 4 (.int .u8), .no, .sl (.sl (.int .u8)), .no, .no, .no, .no, .no, .no, .no, .no, .int .u8, .int .u8, .no, .no, .int .i32, .int .i32, .no, .no, .no]
noncomputable def cx : Cx := { P := Try.prog, ty := tys, own := [], inl := [46, 47, 63, 65, 67, 70, 75, 79, 90, 92, 93, 94, 96, 99], keepL := [], absL := [46, 47, 63, 67, 75, 79], heads := [(8, [(12, 2619193487996832918735118893153895696103287304494790, ⟨16, 0, mkSlots 172 0 [(1, .d (.sl (.int .u8)) (.v 1)), (2, .d (.sl (.int .u32)) (.v 2)), (6, .d .bool (.c (.bool false))), (7, .p tLog tLog 0 []), (9, .p tLog tLog 1 []), (10, .h .bool 2 none), (11, .d (.int .i64) (.v 12)), (12, .d (.int .i64) (.v 13))], [.box tLog (.d tLog (.v 6)), .box tLog (.d tLog (.v 14)), .row .bool (.v 15)]⟩),
    (23, 2619193487996832918735118893153895696103287304554176, ⟨24, 0, mkSlots 172 0 [(6, .d .bool (.c (.bool false))), (7, .p tLog tLog 0 []), (9, .p tLog tLog 1 []), (10, .h .bool 2 none), (16, .d (.int .i64) (.v 23))], [.box tLog (.d tLog (.v 6)), .box tLog (.d tLog (.v 13)), .row .bool (.v 14)]⟩)]),
  (13, [(13, 6230014085836092857281811195736334450540764251657342990419826, ⟨17, 0, mkSlots 203 0 [(1, .d (.sl tl11_Do) (.v 1)), (4, .d .bool (.c (.bool false))), (5, .d (.int .i64) (.v 6)), (6, .p tLog tLog 0 []), (8, .h (.sl (.int .u32)) 1 none), (9, .d (.int .i64) (.v 13)), (10, .d (.int .i64) (.v 14))], [.box tLog (.d tLog (.v 15)), .row (.sl (.int .u32)) (.v 16)]⟩)]),
  (55, [(5, 14983475960261640694, ⟨7, 0, mkSlots 101 0 [(1, .d (.int .i64) (.v 1)), (2, .p tLog tLog 0 []), (4, .p tLog tLog 1 []), (5, .d (.int .i64) (.c (.int .i64 0))), (6, .h (.int .u32) 2 none), (7, .d (.sl tUndo) (.c .nil)), (8, .d (.int .i64) (.v 5))], [.box tLog (.d tLog (.v 0)), .box tLog (.d tLog (.c (.agg [.nil, (.int .i64 0), .nil]))), .row (.int .u32) (.v 6)]⟩),
    (9, 14983475960261642230, ⟨12, 0, mkSlots 101 0 [(1, .d (.int .i64) (.v 1)), (2, .p tLog tLog 0 []), (4, .p tLog tLog 1 []), (5, .d (.int .i64) (.c (.int .i64 0))), (6, .h (.int .u32) 2 none), (7, .d (.sl tUndo) (.c .nil)), (8, .d (.int .i64) (.v 5)), (9, .d .bool (.v 9)), (10, .d (.int .i64) (.v 10))], [.box tLog (.d tLog (.v 0)), .box tLog (.d tLog (.c (.agg [.nil, (.int .i64 0), .nil]))), .row (.int .u32) (.v 11)]⟩),
    (6, 2294, ⟨8, 0, mkSlots 101 0 [(1, .d (.int .i64) (.v 1)), (2, .p tLog tLog 0 []), (4, .p tLog tLog 1 []), (5, .d (.int .i64) (.c (.int .i64 0))), (6, .h (.int .u32) 2 none), (7, .h tUndo 3 none), (11, .d (.int .i64) (.v 6))], [.box tLog (.d tLog (.v 0)), .box tLog (.d tLog (.c (.agg [.nil, (.int .i64 0), .nil]))), .row (.int .u32) (.v 5), .row tUndo (.v 7)]⟩)]),
  (60, [(2, 161942369014637331576634822623246, ⟨3, 0, mkSlots 108 0 [(1, .p tLog tLog 0 []), (2, .d .bool (.c (.bool false))), (3, .d (.int .i64) (.v 2))], [.box tLog (.d tLog (.v 0))]⟩),
    (9, 161942369014637331576634822623294, ⟨10, 0, mkSlots 108 0 [(1, .p tLog tLog 0 []), (2, .d .bool (.c (.bool false))), (3, .d (.int .i64) (.v 2)), (4, .p tUndo tUndo 1 []), (5, .d (.int .i64) (.v 9))], [.box tLog (.d tLog (.v 0)), .box tUndo (.d tUndo (.v 7))]⟩)])] }
theorem tyOk : TysOk cx := chkTys_ok (by kernel_rfl)
theorem mixed : Try.prog.follows .mixedOrders = true := by kernel_rfl
def noC : FuncId → List D → Option (List D) := fun _ _ => none
theorem noC_ok : CallsOk cx noC := fun _ _ _ _ _ _ _ h => by cases h
theorem call_now {f : FuncId} {ds rs : List D} (k d : Nat) (h : callF cx k 12 noC d f ds = some rs) : callL cx 12 noC f ds = some rs := (callL_some cx 12 noC).2 ⟨k, d, h⟩

/-! 44: backstay/backstayref11.Same -/
noncomputable def r11_Same_L1 (x0 : Log) (x1 : Log) (s : Int) : Option (Int ⊕ Unit ⊕ Bool) :=
  if decide (s < (List.length (Log.Lst x0) : Int)) then
    (getO (Log.Lst x0) s).bind fun v8 =>
    (getO (Log.Lst x1) s).bind fun v10 =>
    if !(@decide (v8 = v10) (Ty.dec tUndo _ _)) then
      some (Sum.inr (Sum.inr (false)))
    else
      some (Sum.inl (w64 (s + (1 : Int))))
  else
    some (Sum.inr (Sum.inl ()))
noncomputable def r11_Same_L2 (x0 : Log) (x1 : Log) (s : Int) : Option (Int ⊕ Unit ⊕ Bool) :=
  if decide (s < (List.length (Log.Mem x0) : Int)) then
    (getO (Log.Mem x0) s).bind fun v8 =>
    (getO (Log.Mem x1) s).bind fun v10 =>
    if !decide (v8 = v10) then
      some (Sum.inr (Sum.inr (false)))
    else
      some (Sum.inl (w64 (s + (1 : Int))))
  else
    some (Sum.inr (Sum.inl ()))
noncomputable def r11_Same (p0 : Log) (p1 : Log) : Option Bool :=
  if (!decide ((List.length (Log.Mem p0) : Int) = (List.length (Log.Mem p1) : Int))) || ((!decide ((Log.Span p0) = (Log.Span p1))) || (!decide ((List.length (Log.Lst p0) : Int) = (List.length (Log.Lst p1) : Int)))) then
    some (false)
  else
    orExit (
      loopD (r11_Same_L2 p0 p1) (0 : Int) : Option (Unit ⊕ Bool)) fun v3 =>
    orExit (
      loopD (r11_Same_L1 p0 p1) (0 : Int) : Option (Unit ⊕ Bool)) fun v3 =>
    some (true)
noncomputable def F_r11_Same : FnT := ⟨[tLog, tLog], [.bool], fun x => r11_Same x.1 x.2⟩
noncomputable def A_r11_Same : TA :=
 .subp [.bool] (
  .prim (.fld 0) [.v 0] <|
  .prim .len [.v 2] <|
  .prim (.fld 0) [.v 1] <|
  .prim .len [.v 4] <|
  .prim (.bin .neq) [.v 3, .v 5] <|
  .ite (.v 6) (
   .jmp 0 false [.c (.bool true)]) (
   .prim (.fld 1) [.v 0] <|
   .prim (.fld 1) [.v 1] <|
   .prim (.bin .neq) [.v 7, .v 8] <|
   .ite (.v 9) (
    .jmp 0 false [.c (.bool true)]) (
    .prim (.fld 2) [.v 0] <|
    .prim .len [.v 10] <|
    .prim (.fld 2) [.v 1] <|
    .prim .len [.v 12] <|
    .prim (.bin .neq) [.v 11, .v 13] <|
    .jmp 0 false [.v 14]))) 1 <|
 .ite (.v 2) (
  .jmp 0 false [.c (.bool false)]) (
  .sub1 [] (
   .loop [.int .i64] [.c (.int .i64 0)] (
    .prim (.fld 0) [.v 0] <|
    .prim .len [.v 4] <|
    .prim (.bin .lss) [.v 3, .v 5] <|
    .ite (.v 6) (
     .prim (.fld 0) [.v 0] <|
     .prim .get [.v 7, .v 3] <|
     .prim (.fld 0) [.v 1] <|
     .prim .get [.v 9, .v 3] <|
     .prim (.bin .neq) [.v 8, .v 10] <|
     .ite (.v 11) (
      .jmp 2 false [.c (.bool false)]) (
      .prim (.bin .add) [.v 3, .c (.int .i64 1)] <|
      .jmp 0 true [.v 12])) (
     .jmp 1 false []))) 0 <|
  .sub1 [] (
   .loop [.int .i64] [.c (.int .i64 0)] (
    .prim (.fld 2) [.v 0] <|
    .prim .len [.v 4] <|
    .prim (.bin .lss) [.v 3, .v 5] <|
    .ite (.v 6) (
     .prim (.fld 2) [.v 0] <|
     .prim .get [.v 7, .v 3] <|
     .prim (.fld 2) [.v 1] <|
     .prim .get [.v 9, .v 3] <|
     .prim .eqv [.v 8, .v 10] <|
     .prim (.un .not) [.v 11] <|
     .ite (.v 12) (
      .jmp 2 false [.c (.bool false)]) (
      .prim (.bin .add) [.v 3, .c (.int .i64 1)] <|
      .jmp 0 true [.v 13])) (
     .jmp 1 false []))) 0 <|
  .jmp 0 false [.c (.bool true)])
theorem a_r11_Same : treeOf cx 12 44 = some A_r11_Same.erase := by kernel_rfl
theorem k_r11_Same : FnOk cx 12 noC 44 F_r11_Same := fn_ok (t := A_r11_Same) a_r11_Same (fun _ => rfl) (ok_of [] (by kernel_rfl) .nil) (fun x => by kernel_rfl)

/-! 58: backstay/undo.New -/
noncomputable def undo_New (p0 : Int) : Option (Log × Int) :=
  if (decide (p0 < (1 : Int))) || (decide ((64 : Int) < p0)) then
    some (((Log.mk ([] : List Int) (0 : Int) ([] : List Undo)), (1 : Int)))
  else
    (repO (0 : Int) 4 p0 p0).bind fun v2 =>
    some ((Log.mk v2 (0 : Int) ([] : List Undo), (0 : Int)))
noncomputable def F_undo_New : FnT := ⟨[.int .i64], [tLog, .int .i64], fun x => undo_New x⟩
noncomputable def A_undo_New : TA :=
 .subp [.bool] (
  .prim (.bin .lss) [.v 0, .c (.int .i64 1)] <|
  .ite (.v 1) (
   .jmp 0 false [.c (.bool true)]) (
   .prim (.bin .gtr) [.v 0, .c (.int .i64 64)] <|
   .jmp 0 false [.v 2])) 1 <|
 .ite (.v 1) (
  .jmp 0 false [.c (.agg [.nil, (.int .i64 0), .nil]), .c (.int .i64 1)]) (
  .primH (.rep (.int .u32 0) 4) (.sl (.int .u32)) [.v 0, .v 0] <|
  .mkS tsLog [.v 2, .c (.int .i64 0), .c .nil] <|
  .jmp 0 false [.v 3, .c (.int .i64 0)])
theorem a_undo_New : treeOf cx 12 58 = some A_undo_New.erase := by kernel_rfl
theorem k_undo_New : FnOk cx 12 noC 58 F_undo_New := fn_ok (t := A_undo_New) a_undo_New (fun _ => rfl) (ok_of [] (by kernel_rfl) .nil) (fun x => by kernel_rfl)

/-! 59: backstay/backstayref11.New -/
noncomputable def r11_New (p0 : Int) : Option (Log × Int) :=
  if (decide (p0 < (1 : Int))) || (decide ((64 : Int) < p0)) then
    some (((Log.mk ([] : List Int) (0 : Int) ([] : List Undo)), (1 : Int)))
  else
    (repO (0 : Int) 4 p0 p0).bind fun v2 =>
    some ((Log.mk v2 (0 : Int) ([] : List Undo), (0 : Int)))
noncomputable def F_r11_New : FnT := ⟨[.int .i64], [tLog, .int .i64], fun x => r11_New x⟩
noncomputable def A_r11_New : TA :=
 .subp [.bool] (
  .prim (.bin .lss) [.v 0, .c (.int .i64 1)] <|
  .ite (.v 1) (
   .jmp 0 false [.c (.bool true)]) (
   .prim (.bin .gtr) [.v 0, .c (.int .i64 64)] <|
   .jmp 0 false [.v 2])) 1 <|
 .ite (.v 1) (
  .jmp 0 false [.c (.agg [.nil, (.int .i64 0), .nil]), .c (.int .i64 1)]) (
  .primH (.rep (.int .u32 0) 4) (.sl (.int .u32)) [.v 0, .v 0] <|
  .mkS tsLog [.v 2, .c (.int .i64 0), .c .nil] <|
  .jmp 0 false [.v 3, .c (.int .i64 0)])
theorem a_r11_New : treeOf cx 12 59 = some A_r11_New.erase := by kernel_rfl
theorem k_r11_New : FnOk cx 12 noC 59 F_r11_New := fn_ok (t := A_r11_New) a_r11_New (fun _ => rfl) (ok_of [] (by kernel_rfl) .nil) (fun x => by kernel_rfl)

/-! 60: backstay/backstayref11.Right -/
noncomputable def r11_Right_L1 (x0 : Log) (x2 : Int) (x7 : Undo) (s : Int) : Option (Int ⊕ Unit ⊕ Int ⊕ Unit ⊕ Bool) :=
  if decide (s < x2) then
    (
      (getO (Log.Lst x0) s).bind fun v12 =>
      if decide ((Undo.Span v12) = (Undo.Span x7)) then
        (getO (Log.Lst x0) s).bind fun v17 =>
        some ((decide ((Undo.At v17) = (Undo.At x7))))
      else
        some (false) : Option Bool).bind fun v11 =>
    if v11 then
      some (Sum.inr (Sum.inr (Sum.inr (Sum.inr (false)))))
    else
      some (Sum.inl (w64 (s + (1 : Int))))
  else
    some (Sum.inr (Sum.inl ()))
noncomputable def r11_Right_L2 (x0 : Log) (s : Int) : Option (Int ⊕ Unit ⊕ Bool) :=
  if decide (s < (List.length (Log.Lst x0) : Int)) then
    (getO (Log.Lst x0) s).bind fun v7 =>
    (
      if decide ((Undo.Span v7) < (0 : Int)) then
        some (true)
      else
        if decide ((Log.Span x0) < (Undo.Span v7)) then
          some (true)
        else
          if decide ((Undo.At v7) < (0 : Int)) then
            some (true)
          else
            if decide ((List.length (Log.Mem x0) : Int) ≤ (Undo.At v7)) then
              some (true)
            else
              if decide ((0 : Int) < s) then
                (getO (Log.Lst x0) (w64 (s - (1 : Int)))).bind fun v23 =>
                some ((decide ((Undo.Span v7) < (Undo.Span v23))))
              else
                some (false) : Option Bool).bind fun v8 =>
    if v8 then
      some (Sum.inr (Sum.inr (false)))
    else
      orExit (
        loopD (r11_Right_L1 x0 s v7) (0 : Int) : Option (Unit ⊕ Int ⊕ Unit ⊕ Bool)) fun v9 =>
      some (Sum.inl (w64 (s + (1 : Int))))
  else
    some (Sum.inr (Sum.inl ()))
noncomputable def r11_Right (p0 : Log) : Option Bool :=
  if (decide ((List.length (Log.Mem p0) : Int) = (0 : Int))) || ((decide ((64 : Int) < (List.length (Log.Mem p0) : Int))) || ((decide ((Log.Span p0) < (0 : Int))) || ((decide ((1099511627776 : Int) < (Log.Span p0))) || (decide ((256 : Int) < (List.length (Log.Lst p0) : Int)))))) then
    some (false)
  else
    orExit (
      loopD (r11_Right_L2 p0) (0 : Int) : Option (Unit ⊕ Bool)) fun v2 =>
    some (true)
noncomputable def F_r11_Right : FnT := ⟨[tLog], [.bool], fun x => r11_Right x⟩
noncomputable def A_r11_Right : TA :=
 .subp [.bool] (
  .prim (.fld 0) [.v 0] <|
  .prim .len [.v 1] <|
  .prim (.bin .eql) [.v 2, .c (.int .i64 0)] <|
  .ite (.v 3) (
   .jmp 0 false [.c (.bool true)]) (
   .prim (.fld 0) [.v 0] <|
   .prim .len [.v 4] <|
   .prim (.bin .gtr) [.v 5, .c (.int .i64 64)] <|
   .ite (.v 6) (
    .jmp 0 false [.c (.bool true)]) (
    .prim (.fld 1) [.v 0] <|
    .prim (.bin .lss) [.v 7, .c (.int .i64 0)] <|
    .ite (.v 8) (
     .jmp 0 false [.c (.bool true)]) (
     .prim (.fld 1) [.v 0] <|
     .prim (.bin .gtr) [.v 9, .c (.int .i64 1099511627776)] <|
     .ite (.v 10) (
      .jmp 0 false [.c (.bool true)]) (
      .prim (.fld 2) [.v 0] <|
      .prim .len [.v 11] <|
      .prim (.bin .gtr) [.v 12, .c (.int .i64 256)] <|
      .jmp 0 false [.v 13]))))) 1 <|
 .ite (.v 1) (
  .jmp 0 false [.c (.bool false)]) (
  .sub1 [] (
   .loop [.int .i64] [.c (.int .i64 0)] (
    .prim (.fld 2) [.v 0] <|
    .prim .len [.v 3] <|
    .prim (.bin .lss) [.v 2, .v 4] <|
    .ite (.v 5) (
     .prim (.fld 2) [.v 0] <|
     .prim .get [.v 6, .v 2] <|
     .sub0 [.bool] (
      .prim (.fld 0) [.v 7] <|
      .prim (.bin .lss) [.v 8, .c (.int .i64 0)] <|
      .ite (.v 9) (
       .jmp 0 false [.c (.bool true)]) (
       .prim (.fld 0) [.v 7] <|
       .prim (.fld 1) [.v 0] <|
       .prim (.bin .gtr) [.v 10, .v 11] <|
       .ite (.v 12) (
        .jmp 0 false [.c (.bool true)]) (
        .prim (.fld 1) [.v 7] <|
        .prim (.bin .lss) [.v 13, .c (.int .i64 0)] <|
        .ite (.v 14) (
         .jmp 0 false [.c (.bool true)]) (
         .prim (.fld 1) [.v 7] <|
         .prim (.fld 0) [.v 0] <|
         .prim .len [.v 16] <|
         .prim (.bin .geq) [.v 15, .v 17] <|
         .ite (.v 18) (
          .jmp 0 false [.c (.bool true)]) (
          .prim (.bin .gtr) [.v 2, .c (.int .i64 0)] <|
          .ite (.v 19) (
           .prim (.fld 0) [.v 7] <|
           .prim (.fld 2) [.v 0] <|
           .prim (.bin .sub) [.v 2, .c (.int .i64 1)] <|
           .prim .get [.v 21, .v 22] <|
           .prim (.fld 0) [.v 23] <|
           .prim (.bin .lss) [.v 20, .v 24] <|
           .jmp 0 false [.v 25]) (
           .jmp 0 false [.c (.bool false)])))))) 1 <|
     .ite (.v 8) (
      .jmp 2 false [.c (.bool false)]) (
      .sub1 [] (
       .loop [.int .i64] [.c (.int .i64 0)] (
        .prim (.bin .lss) [.v 9, .v 2] <|
        .ite (.v 10) (
         .sub0 [.bool] (
          .prim (.fld 2) [.v 0] <|
          .prim .get [.v 11, .v 9] <|
          .prim (.fld 0) [.v 12] <|
          .prim (.fld 0) [.v 7] <|
          .prim (.bin .eql) [.v 13, .v 14] <|
          .ite (.v 15) (
           .prim (.fld 2) [.v 0] <|
           .prim .get [.v 16, .v 9] <|
           .prim (.fld 1) [.v 17] <|
           .prim (.fld 1) [.v 7] <|
           .prim (.bin .eql) [.v 18, .v 19] <|
           .jmp 0 false [.v 20]) (
           .jmp 0 false [.c (.bool false)])) 1 <|
         .ite (.v 11) (
          .jmp 4 false [.c (.bool false)]) (
          .prim (.bin .add) [.v 9, .c (.int .i64 1)] <|
          .jmp 0 true [.v 12])) (
         .jmp 1 false []))) 0 <|
      .prim (.bin .add) [.v 2, .c (.int .i64 1)] <|
      .jmp 0 true [.v 9])) (
     .jmp 1 false []))) 0 <|
  .jmp 0 false [.c (.bool true)])
theorem a_r11_Right : treeOf cx 12 60 = some A_r11_Right.erase := by kernel_rfl
theorem k_r11_Right : FnOk cx 12 noC 60 F_r11_Right := fn_ok (t := A_r11_Right) a_r11_Right (fun _ => rfl) (ok_of [] (by kernel_rfl) .nil) (fun x => by kernel_rfl)

/-! 62: backstay/backstayref04.Words -/
noncomputable def r04_Words_L1 (x0 : List Int) (x1 : List Int) (s : Int) : Option (Int ⊕ Unit ⊕ Bool) :=
  if decide (s < (List.length x0 : Int)) then
    (getO x0 s).bind fun v8 =>
    (getO x1 s).bind fun v9 =>
    if !decide (v8 = v9) then
      some (Sum.inr (Sum.inr (false)))
    else
      some (Sum.inl (w64 (s + (1 : Int))))
  else
    some (Sum.inr (Sum.inl ()))
noncomputable def r04_Words (p0 : List Int) (p1 : List Int) : Option Bool :=
  if !decide ((List.length p0 : Int) = (List.length p1 : Int)) then
    some (false)
  else
    orExit (
      loopD (r04_Words_L1 p0 p1) (0 : Int) : Option (Unit ⊕ Bool)) fun v5 =>
    some (true)
noncomputable def F_r04_Words : FnT := ⟨[.sl (.int .u32), .sl (.int .u32)], [.bool], fun x => r04_Words x.1 x.2⟩
noncomputable def A_r04_Words : TA :=
 .prim .len [.v 0] <|
 .prim .len [.v 1] <|
 .prim (.bin .neq) [.v 2, .v 3] <|
 .ite (.v 4) (
  .jmp 0 false [.c (.bool false)]) (
  .sub1 [] (
   .loop [.int .i64] [.c (.int .i64 0)] (
    .prim .len [.v 0] <|
    .prim (.bin .lss) [.v 5, .v 6] <|
    .ite (.v 7) (
     .prim .get [.v 0, .v 5] <|
     .prim .get [.v 1, .v 5] <|
     .prim (.bin .neq) [.v 8, .v 9] <|
     .ite (.v 10) (
      .jmp 2 false [.c (.bool false)]) (
      .prim (.bin .add) [.v 5, .c (.int .i64 1)] <|
      .jmp 0 true [.v 11])) (
     .jmp 1 false []))) 0 <|
  .jmp 0 false [.c (.bool true)])
theorem a_r04_Words : treeOf cx 12 62 = some A_r04_Words.erase := by kernel_rfl
theorem k_r04_Words : FnOk cx 12 noC 62 F_r04_Words := fn_ok (t := A_r04_Words) a_r04_Words (fun _ => rfl) (ok_of [] (by kernel_rfl) .nil) (fun x => by kernel_rfl)

/-! 78: backstay/undo.span -/
def undo_span (p0 : Int) (p1 : Int) : Bool :=
  (decide ((0 : Int) ≤ p0)) && (decide (p0 ≤ p1))
def F_undo_span : PnT := ⟨[.int .i64, .int .i64], [.bool], fun x => undo_span x.1 x.2⟩
def A_undo_span : TA :=
 .subp [.bool] (
  .prim (.bin .geq) [.v 0, .c (.int .i64 0)] <|
  .ite (.v 2) (
   .prim (.bin .leq) [.v 0, .v 1] <|
   .jmp 0 false [.v 3]) (
   .jmp 0 false [.c (.bool false)])) 1 <|
 .jmp 0 false [.v 2]
theorem a_undo_span : treeOf cx 12 78 = some A_undo_span.erase := by kernel_rfl
theorem k_undo_span : FnOk cx 12 noC 78 F_undo_span.fn := pn_ok (t := A_undo_span) a_undo_span (fun _ => rfl) (ok_of [] (by kernel_rfl) .nil) (fun x => by kernel_rfl)

/-! 87: backstay/backstayref11.with -/
noncomputable def r11_with (p0 : List Int) (p1 : Int) (p2 : Int) : Option (List Int) :=
  (appO 4 ([] : List Int) p0).bind fun v3 =>
  (idxO (List.length v3 : Int) p1).bind fun v4 =>
  (setO v3 v4 p2).bind fun v5 =>
  some (v5)
noncomputable def F_r11_with : FnT := ⟨[.sl (.int .u32), .int .i64, .int .u32], [.sl (.int .u32)], fun x => r11_with x.1 x.2.1 x.2.2⟩
noncomputable def A_r11_with : TA :=
 .primH (.app 4) (.sl (.int .u32)) [.c (.sl []), .v 0] <|
 .prim .idx [.v 3, .v 1] <|
 .prim .set [.v 3, .v 4, .v 2] <|
 .jmp 0 false [.v 5]
theorem a_r11_with : treeOf cx 12 87 = some A_r11_with.erase := by kernel_rfl
theorem k_r11_with : FnOk cx 12 noC 87 F_r11_with := fn_ok (t := A_r11_with) a_r11_with (fun _ => rfl) (ok_of [] (by kernel_rfl) .nil) (fun x => by kernel_rfl)

/-! 54: backstay/backstayref11.Write -/
noncomputable def r11_Write_L1 (x0 : Log) (x1 : Int) (s : (Bool × Int)) : Option ((Bool × Int) ⊕ Bool) :=
  if decide (s.2 < (List.length (Log.Lst x0) : Int)) then
    (
      if s.1 then
        some (true)
      else
        (getO (Log.Lst x0) s.2).bind fun v10 =>
        if decide ((Undo.Span v10) = (Log.Span x0)) then
          (getO (Log.Lst x0) s.2).bind fun v15 =>
          some ((decide ((Undo.At v15) = x1)))
        else
          some (false) : Option Bool).bind fun v9 =>
    some (Sum.inl (v9, w64 (s.2 + (1 : Int))))
  else
    some (Sum.inr (s.1))
noncomputable def r11_Write (p0 : Log) (p1 : Int) (p2 : Int) : Option (Log × Int) :=
  (
    (r11_Right p0).bind fun v3 =>
    if !v3 then
      some (true)
    else
      if decide (p1 < (0 : Int)) then
        some (true)
      else
        some ((decide ((List.length (Log.Mem p0) : Int) ≤ p1))) : Option Bool).bind fun v3 =>
  if v3 then
    some ((p0, (1 : Int)))
  else
    (
      loopD (r11_Write_L1 p0 p1) (false, (0 : Int)) : Option Bool).bind fun v4 =>
    orExit (
      if !v4 then
        if decide ((256 : Int) ≤ (List.length (Log.Lst p0) : Int)) then
          some (Sum.inr ((p0, (6 : Int))))
        else
          (appO 24 ([] : List Undo) (Log.Lst p0)).bind fun v10 =>
          (getO (Log.Mem p0) p1).bind fun v13 =>
          (appO 24 v10 ([Undo.mk (Log.Span p0) p1 v13] : List Undo)).bind fun v16 =>
          some (Sum.inl (Log.Mem p0, Log.Span p0, v16))
      else
        some (Sum.inl (Log.Mem p0, Log.Span p0, Log.Lst p0)) : Option (((List Int) × Int × (List Undo)) ⊕ (Log × Int))) fun v6 =>
    (r11_with v6.1 p1 p2).bind fun v9 =>
    some ((Log.mk v9 v6.2.1 v6.2.2, (0 : Int)))
noncomputable def F_r11_Write : FnT := ⟨[tLog, .int .i64, .int .u32], [tLog, .int .i64], fun x => r11_Write x.1 x.2.1 x.2.2⟩
noncomputable def A_r11_Write : TA :=
 .sub0 [.bool] (
  .call 60 F_r11_Right [.v 0] 1 <|
  .prim (.un .not) [.v 3] <|
  .ite (.v 4) (
   .jmp 0 false [.c (.bool true)]) (
   .prim (.bin .lss) [.v 1, .c (.int .i64 0)] <|
   .ite (.v 5) (
    .jmp 0 false [.c (.bool true)]) (
    .prim (.fld 0) [.v 0] <|
    .prim .len [.v 6] <|
    .prim (.bin .geq) [.v 1, .v 7] <|
    .jmp 0 false [.v 8]))) 1 <|
 .ite (.v 3) (
  .jmp 0 false [.v 0, .c (.int .i64 1)]) (
  .sub0 [.bool] (
   .loop [.bool, .int .i64] [.c (.bool false), .c (.int .i64 0)] (
    .prim (.fld 2) [.v 0] <|
    .prim .len [.v 6] <|
    .prim (.bin .lss) [.v 5, .v 7] <|
    .ite (.v 8) (
     .sub0 [.bool] (
      .ite (.v 4) (
       .jmp 0 false [.c (.bool true)]) (
       .prim (.fld 2) [.v 0] <|
       .prim .get [.v 9, .v 5] <|
       .prim (.fld 0) [.v 10] <|
       .prim (.fld 1) [.v 0] <|
       .prim (.bin .eql) [.v 11, .v 12] <|
       .ite (.v 13) (
        .prim (.fld 2) [.v 0] <|
        .prim .get [.v 14, .v 5] <|
        .prim (.fld 1) [.v 15] <|
        .prim (.bin .eql) [.v 16, .v 1] <|
        .jmp 0 false [.v 17]) (
        .jmp 0 false [.c (.bool false)]))) 1 <|
     .prim (.bin .add) [.v 5, .c (.int .i64 1)] <|
     .jmp 0 true [.v 9, .v 10]) (
     .jmp 1 false [.v 4]))) 1 <|
  .prim (.un .not) [.v 4] <|
  .sub1 [.sl (.int .u32), .int .i64, .sl tUndo] (
   .ite (.v 5) (
    .prim (.fld 2) [.v 0] <|
    .prim .len [.v 6] <|
    .prim (.bin .geq) [.v 7, .c (.int .i64 256)] <|
    .ite (.v 8) (
     .jmp 1 false [.v 0, .c (.int .i64 6)]) (
     .prim (.fld 2) [.v 0] <|
     .primH (.app 24) (.sl tUndo) [.c (.sl []), .v 9] <|
     .prim (.fld 1) [.v 0] <|
     .prim (.fld 0) [.v 0] <|
     .prim .get [.v 12, .v 1] <|
     .mkS tsUndo [.v 11, .v 1, .v 13] <|
     .mkL tUndo [.v 14] <|
     .prim (.app 24) [.v 10, .v 15] <|
     .prim (.fld 0) [.v 0] <|
     .prim (.fld 1) [.v 0] <|
     .prim (.fld 2) [.v 0] <|
     .jmp 0 false [.v 17, .v 18, .v 16])) (
    .prim (.fld 0) [.v 0] <|
    .prim (.fld 1) [.v 0] <|
    .prim (.fld 2) [.v 0] <|
    .jmp 0 false [.v 6, .v 7, .v 8])) 3 <|
  .call 87 F_r11_with [.v 6, .v 1, .v 2] 1 <|
  .mkS tsLog [.v 9, .v 7, .v 8] <|
  .jmp 0 false [.v 10, .c (.int .i64 0)])
theorem a_r11_Write : treeOf cx 12 54 = some A_r11_Write.erase := by kernel_rfl
theorem k_r11_Write : FnOk cx 12 noC 54 F_r11_Write := fn_ok (t := A_r11_Write) a_r11_Write (fun _ => rfl) (ok_of [(60, F_r11_Right), (87, F_r11_with)] (by kernel_rfl) (.cons k_r11_Right (.cons k_r11_with .nil))) (fun x => by kernel_rfl)

/-! 55: backstay/backstayref11.Back -/
noncomputable def r11_Back_L1 (x0 : Log) (x1 : Int) (s : (Int × (List Undo))) : Option ((Int × (List Undo)) ⊕ (List Undo)) :=
  if decide (s.1 < (List.length (Log.Lst x0) : Int)) then
    (getO (Log.Lst x0) s.1).bind fun v12 =>
    (
      if decide ((Undo.Span v12) < x1) then
        (getO (Log.Lst x0) s.1).bind fun v16 =>
        (appO 24 s.2 ([v16] : List Undo)).bind fun v18 =>
        some (v18)
      else
        some (s.2) : Option (List Undo)).bind fun v15 =>
    some (Sum.inl (w64 (s.1 + (1 : Int)), v15))
  else
    some (Sum.inr (s.2))
noncomputable def r11_Back_L2 (x0 : Log) (x1 : Int) (x5 : Int) (s : (Bool × Int × (List Int))) : Option ((Bool × Int × (List Int)) ⊕ (List Int)) :=
  if decide (s.2.1 < (List.length (Log.Lst x0) : Int)) then
    (
      (getO (Log.Lst x0) s.2.1).bind fun v16 =>
      if decide (x1 ≤ (Undo.Span v16)) then
        (getO (Log.Lst x0) s.2.1).bind fun v20 =>
        if decide ((Undo.At v20) = x5) then
          some ((!s.1))
        else
          some (false)
      else
        some (false) : Option Bool).bind fun v15 =>
    (
      if v15 then
        (getO (Log.Lst x0) s.2.1).bind fun v17 =>
        (idxO (List.length s.2.2 : Int) x5).bind fun v19 =>
        (setO s.2.2 v19 (Undo.Val v17)).bind fun v20 =>
        some ((true, v20))
      else
        some ((s.1, s.2.2)) : Option (Bool × (List Int))).bind fun v16 =>
    some (Sum.inl (v16.1, w64 (s.2.1 + (1 : Int)), v16.2))
  else
    some (Sum.inr (s.2.2))
noncomputable def r11_Back_L3 (x0 : Log) (x1 : Int) (s : (Int × (List Int))) : Option ((Int × (List Int)) ⊕ (List Int)) :=
  if decide (s.1 < (List.length s.2 : Int)) then
    (
      loopD (r11_Back_L2 x0 x1 s.1) (false, (0 : Int), s.2) : Option (List Int)).bind fun v9 =>
    some (Sum.inl (w64 (s.1 + (1 : Int)), v9))
  else
    some (Sum.inr (s.2))
noncomputable def r11_Back (p0 : Log) (p1 : Int) : Option (Log × Int) :=
  (
    (r11_Right p0).bind fun v2 =>
    if !v2 then
      some (true)
    else
      if decide (p1 < (0 : Int)) then
        some (true)
      else
        some ((decide ((Log.Span p0) < p1))) : Option Bool).bind fun v2 =>
  if v2 then
    some ((p0, (1 : Int)))
  else
    (appO 4 ([] : List Int) (Log.Mem p0)).bind fun v4 =>
    (
      loopD (r11_Back_L3 p0 p1) ((0 : Int), v4) : Option (List Int)).bind fun v5 =>
    (
      loopD (r11_Back_L1 p0 p1) ((0 : Int), ([] : List Undo)) : Option (List Undo)).bind fun v6 =>
    some ((Log.mk v5 p1 v6, (0 : Int)))
noncomputable def F_r11_Back : FnT := ⟨[tLog, .int .i64], [tLog, .int .i64], fun x => r11_Back x.1 x.2⟩
noncomputable def A_r11_Back : TA :=
 .sub0 [.bool] (
  .call 60 F_r11_Right [.v 0] 1 <|
  .prim (.un .not) [.v 2] <|
  .ite (.v 3) (
   .jmp 0 false [.c (.bool true)]) (
   .prim (.bin .lss) [.v 1, .c (.int .i64 0)] <|
   .ite (.v 4) (
    .jmp 0 false [.c (.bool true)]) (
    .prim (.fld 1) [.v 0] <|
    .prim (.bin .gtr) [.v 1, .v 5] <|
    .jmp 0 false [.v 6]))) 1 <|
 .ite (.v 2) (
  .jmp 0 false [.v 0, .c (.int .i64 1)]) (
  .prim (.fld 0) [.v 0] <|
  .primH (.app 4) (.sl (.int .u32)) [.c (.sl []), .v 3] <|
  .sub0 [.sl (.int .u32)] (
   .loop [.int .i64, .sl (.int .u32)] [.c (.int .i64 0), .v 4] (
    .prim .len [.v 6] <|
    .prim (.bin .lss) [.v 5, .v 7] <|
    .ite (.v 8) (
     .sub0 [.sl (.int .u32)] (
      .loop [.bool, .int .i64, .sl (.int .u32)] [.c (.bool false), .c (.int .i64 0), .v 6] (
       .prim (.fld 2) [.v 0] <|
       .prim .len [.v 12] <|
       .prim (.bin .lss) [.v 10, .v 13] <|
       .ite (.v 14) (
        .sub0 [.bool] (
         .prim (.fld 2) [.v 0] <|
         .prim .get [.v 15, .v 10] <|
         .prim (.fld 0) [.v 16] <|
         .prim (.bin .geq) [.v 17, .v 1] <|
         .ite (.v 18) (
          .prim (.fld 2) [.v 0] <|
          .prim .get [.v 19, .v 10] <|
          .prim (.fld 1) [.v 20] <|
          .prim (.bin .eql) [.v 21, .v 5] <|
          .ite (.v 22) (
           .prim (.un .not) [.v 9] <|
           .jmp 0 false [.v 23]) (
           .jmp 0 false [.c (.bool false)])) (
          .jmp 0 false [.c (.bool false)])) 1 <|
        .sub0 [.bool, .sl (.int .u32)] (
         .ite (.v 15) (
          .prim (.fld 2) [.v 0] <|
          .prim .get [.v 16, .v 10] <|
          .prim (.fld 2) [.v 17] <|
          .prim .idx [.v 11, .v 5] <|
          .prim .set [.v 11, .v 19, .v 18] <|
          .jmp 0 false [.c (.bool true), .v 20]) (
          .jmp 0 false [.v 9, .v 11])) 2 <|
        .prim (.bin .add) [.v 10, .c (.int .i64 1)] <|
        .jmp 0 true [.v 16, .v 18, .v 17]) (
        .jmp 1 false [.v 11]))) 1 <|
     .prim (.bin .add) [.v 5, .c (.int .i64 1)] <|
     .jmp 0 true [.v 10, .v 9]) (
     .jmp 1 false [.v 6]))) 1 <|
  .sub0 [.sl tUndo] (
   .loop [.int .i64, .sl tUndo] [.c (.int .i64 0), .c .nil] (
    .prim (.fld 2) [.v 0] <|
    .prim .len [.v 8] <|
    .prim (.bin .lss) [.v 6, .v 9] <|
    .ite (.v 10) (
     .prim (.fld 2) [.v 0] <|
     .prim .get [.v 11, .v 6] <|
     .prim (.fld 0) [.v 12] <|
     .prim (.bin .lss) [.v 13, .v 1] <|
     .sub0 [.sl tUndo] (
      .ite (.v 14) (
       .prim (.fld 2) [.v 0] <|
       .prim .get [.v 15, .v 6] <|
       .mkL tUndo [.v 16] <|
       .prim (.app 24) [.v 7, .v 17] <|
       .jmp 0 false [.v 18]) (
       .jmp 0 false [.v 7])) 1 <|
     .prim (.bin .add) [.v 6, .c (.int .i64 1)] <|
     .jmp 0 true [.v 16, .v 15]) (
     .jmp 1 false [.v 7]))) 1 <|
  .mkS tsLog [.v 5, .v 1, .v 6] <|
  .jmp 0 false [.v 7, .c (.int .i64 0)])
theorem a_r11_Back : treeOf cx 12 55 = some A_r11_Back.erase := by kernel_rfl
theorem k_r11_Back : FnOk cx 12 noC 55 F_r11_Back := fn_ok (t := A_r11_Back) a_r11_Back (fun _ => rfl) (ok_of [(60, F_r11_Right)] (by kernel_rfl) (.cons k_r11_Right .nil)) (fun x => by kernel_rfl)

/-! 57: backstay/backstayref11.Trim -/
noncomputable def r11_Trim_L1 (x0 : Log) (x1 : Int) (s : (Int × (List Undo))) : Option ((Int × (List Undo)) ⊕ (List Undo)) :=
  if decide (s.1 < (List.length (Log.Lst x0) : Int)) then
    (getO (Log.Lst x0) s.1).bind fun v9 =>
    (
      if decide (x1 ≤ (Undo.Span v9)) then
        (getO (Log.Lst x0) s.1).bind fun v13 =>
        (appO 24 s.2 ([v13] : List Undo)).bind fun v15 =>
        some (v15)
      else
        some (s.2) : Option (List Undo)).bind fun v12 =>
    some (Sum.inl (w64 (s.1 + (1 : Int)), v12))
  else
    some (Sum.inr (s.2))
noncomputable def r11_Trim (p0 : Log) (p1 : Int) : Option (Log × Int) :=
  (
    (r11_Right p0).bind fun v2 =>
    if !v2 then
      some (true)
    else
      if decide (p1 < (0 : Int)) then
        some (true)
      else
        some ((decide ((Log.Span p0) < p1))) : Option Bool).bind fun v2 =>
  if v2 then
    some ((p0, (1 : Int)))
  else
    (
      loopD (r11_Trim_L1 p0 p1) ((0 : Int), ([] : List Undo)) : Option (List Undo)).bind fun v3 =>
    some ((Log.mk (Log.Mem p0) (Log.Span p0) v3, (0 : Int)))
noncomputable def F_r11_Trim : FnT := ⟨[tLog, .int .i64], [tLog, .int .i64], fun x => r11_Trim x.1 x.2⟩
noncomputable def A_r11_Trim : TA :=
 .sub0 [.bool] (
  .call 60 F_r11_Right [.v 0] 1 <|
  .prim (.un .not) [.v 2] <|
  .ite (.v 3) (
   .jmp 0 false [.c (.bool true)]) (
   .prim (.bin .lss) [.v 1, .c (.int .i64 0)] <|
   .ite (.v 4) (
    .jmp 0 false [.c (.bool true)]) (
    .prim (.fld 1) [.v 0] <|
    .prim (.bin .gtr) [.v 1, .v 5] <|
    .jmp 0 false [.v 6]))) 1 <|
 .ite (.v 2) (
  .jmp 0 false [.v 0, .c (.int .i64 1)]) (
  .sub0 [.sl tUndo] (
   .loop [.int .i64, .sl tUndo] [.c (.int .i64 0), .c .nil] (
    .prim (.fld 2) [.v 0] <|
    .prim .len [.v 5] <|
    .prim (.bin .lss) [.v 3, .v 6] <|
    .ite (.v 7) (
     .prim (.fld 2) [.v 0] <|
     .prim .get [.v 8, .v 3] <|
     .prim (.fld 0) [.v 9] <|
     .prim (.bin .geq) [.v 10, .v 1] <|
     .sub0 [.sl tUndo] (
      .ite (.v 11) (
       .prim (.fld 2) [.v 0] <|
       .prim .get [.v 12, .v 3] <|
       .mkL tUndo [.v 13] <|
       .prim (.app 24) [.v 4, .v 14] <|
       .jmp 0 false [.v 15]) (
       .jmp 0 false [.v 4])) 1 <|
     .prim (.bin .add) [.v 3, .c (.int .i64 1)] <|
     .jmp 0 true [.v 13, .v 12]) (
     .jmp 1 false [.v 4]))) 1 <|
  .prim (.fld 0) [.v 0] <|
  .prim (.fld 1) [.v 0] <|
  .prim (.fld 2) [.v 0] <|
  .mkS tsLog [.v 4, .v 5, .v 3] <|
  .jmp 0 false [.v 7, .c (.int .i64 0)])
theorem a_r11_Trim : treeOf cx 12 57 = some A_r11_Trim.erase := by kernel_rfl
theorem k_r11_Trim : FnOk cx 12 noC 57 F_r11_Trim := fn_ok (t := A_r11_Trim) a_r11_Trim (fun _ => rfl) (ok_of [(60, F_r11_Right)] (by kernel_rfl) (.cons k_r11_Right .nil)) (fun x => by kernel_rfl)

/-! 61: backstay/undo.Right -/
noncomputable def undo_Right_L1 (x0 : Log) (x2 : List Undo) (x3 : Int) (s : (Int × Int × (List ((List Int) × Bool)))) : Option ((Int × Int × (List ((List Int) × Bool))) ⊕ Unit ⊕ Bool) :=
  if decide (s.2.1 < x3) then
    (getO x2 s.2.1).bind fun v8 =>
    let v11 : List Int := ([Undo.Span v8, Undo.At v8] : List Int)
    if (decide ((Undo.Span v8) < s.1)) || ((decide ((Log.Span x0) < (Undo.Span v8))) || ((decide ((Undo.At v8) < (0 : Int))) || ((decide ((List.length (Log.Mem x0) : Int) ≤ (Undo.At v8))) || (mgetT (Ty.dec (.arr 2 (.int .i64))) false s.2.2 v11)))) then
      some (Sum.inr (Sum.inr (false)))
    else
      some (Sum.inl (Undo.Span v8, w64 (s.2.1 + (1 : Int)), mputT (Ty.dec (.arr 2 (.int .i64))) v11 true s.2.2))
  else
    some (Sum.inr (Sum.inl ()))
noncomputable def undo_Right (p0 : Log) : Option Bool :=
  if (decide ((List.length (Log.Mem p0) : Int) < (1 : Int))) || ((decide ((64 : Int) < (List.length (Log.Mem p0) : Int))) || ((!(undo_span (Log.Span p0) (1099511627776 : Int))) || (decide ((256 : Int) < (List.length (Log.Lst p0) : Int))))) then
    some (false)
  else
    let v3 : Int := (List.length (Log.Lst p0) : Int)
    orExit (
      loopD (undo_Right_L1 p0 (Log.Lst p0) v3) ((0 : Int), (0 : Int), ([] : List ((List Int) × Bool))) : Option (Unit ⊕ Bool)) fun v4 =>
    some (true)
noncomputable def F_undo_Right : FnT := ⟨[tLog], [.bool], fun x => undo_Right x⟩
noncomputable def A_undo_Right : TA :=
 .subp [.bool] (
  .prim (.fld 0) [.v 0] <|
  .prim .len [.v 1] <|
  .prim (.bin .lss) [.v 2, .c (.int .i64 1)] <|
  .ite (.v 3) (
   .jmp 0 false [.c (.bool true)]) (
   .prim (.fld 0) [.v 0] <|
   .prim .len [.v 4] <|
   .prim (.bin .gtr) [.v 5, .c (.int .i64 64)] <|
   .ite (.v 6) (
    .jmp 0 false [.c (.bool true)]) (
    .prim (.fld 1) [.v 0] <|
    .callp 78 F_undo_span [.v 7, .c (.int .i64 1099511627776)] 1 <|
    .prim (.un .not) [.v 8] <|
    .ite (.v 9) (
     .jmp 0 false [.c (.bool true)]) (
     .prim (.fld 2) [.v 0] <|
     .prim .len [.v 10] <|
     .prim (.bin .gtr) [.v 11, .c (.int .i64 256)] <|
     .jmp 0 false [.v 12])))) 1 <|
 .ite (.v 1) (
  .jmp 0 false [.c (.bool false)]) (
  .prim (.fld 2) [.v 0] <|
  .prim .len [.v 2] <|
  .sub1 [] (
   .loop [.int .i64, .int .i64, .sl (.st [.arr 2 (.int .i64), .bool])] [.c (.int .i64 0), .c (.int .i64 0), .c (.sl [])] (
    .prim (.bin .lss) [.v 5, .v 3] <|
    .ite (.v 7) (
     .prim .get [.v 2, .v 5] <|
     .prim (.fld 0) [.v 8] <|
     .prim (.fld 1) [.v 8] <|
     .mkA 2 (.int .i64) [.v 9, .v 10] <|
     .subp [.bool] (
      .prim (.fld 0) [.v 8] <|
      .prim (.bin .lss) [.v 12, .v 4] <|
      .ite (.v 13) (
       .jmp 0 false [.c (.bool true)]) (
       .prim (.fld 0) [.v 8] <|
       .prim (.fld 1) [.v 0] <|
       .prim (.bin .gtr) [.v 14, .v 15] <|
       .ite (.v 16) (
        .jmp 0 false [.c (.bool true)]) (
        .prim (.fld 1) [.v 8] <|
        .prim (.bin .lss) [.v 17, .c (.int .i64 0)] <|
        .ite (.v 18) (
         .jmp 0 false [.c (.bool true)]) (
         .prim (.fld 1) [.v 8] <|
         .prim (.fld 0) [.v 0] <|
         .prim .len [.v 20] <|
         .prim (.bin .geq) [.v 19, .v 21] <|
         .ite (.v 22) (
          .jmp 0 false [.c (.bool true)]) (
          .prim (.mget (.bool false)) [.v 6, .v 11] <|
          .jmp 0 false [.v 23]))))) 1 <|
     .ite (.v 12) (
      .jmp 2 false [.c (.bool false)]) (
      .prim (.fld 0) [.v 8] <|
      .prim .mput [.v 6, .v 11, .c (.bool true)] <|
      .prim (.bin .add) [.v 5, .c (.int .i64 1)] <|
      .jmp 0 true [.v 13, .v 15, .v 14])) (
     .jmp 1 false []))) 0 <|
  .jmp 0 false [.c (.bool true)])
theorem a_undo_Right : treeOf cx 12 61 = some A_undo_Right.erase := by kernel_rfl
theorem k_undo_Right : FnOk cx 12 noC 61 F_undo_Right := fn_ok (t := A_undo_Right) a_undo_Right (fun _ => rfl) (ok_of [(78, F_undo_span.fn)] (by kernel_rfl) (.cons k_undo_span .nil)) (fun x => by kernel_rfl)

/-! 40: backstay/undo.Next -/
noncomputable def undo_Next (p0 : Log) : Option (Log × Int) :=
  (
    (undo_Right p0).bind fun v1 =>
    if v1 then
      some ((decide ((Log.Span p0) < (1099511627776 : Int))))
    else
      some (false) : Option Bool).bind fun v1 =>
  (
    (cloneO 4 (Log.Mem p0)).bind fun v3 =>
    (cloneO 24 (Log.Lst p0)).bind fun v5 =>
    some ((Log.Span p0, v3, v5)) : Option (Int × (List Int) × (List Undo))).bind fun v2 =>
  if !v1 then
    some ((Log.mk v2.2.1 v2.1 v2.2.2, (1 : Int)))
  else
    some ((Log.mk v2.2.1 (w64 (v2.1 + (1 : Int))) v2.2.2, (0 : Int)))
noncomputable def F_undo_Next : FnT := ⟨[tLog], [tLog, .int .i64], fun x => undo_Next x⟩
noncomputable def A_undo_Next : TA :=
 .sub0 [.bool] (
  .call 61 F_undo_Right [.v 0] 1 <|
  .ite (.v 1) (
   .prim (.fld 1) [.v 0] <|
   .prim (.bin .lss) [.v 2, .c (.int .i64 1099511627776)] <|
   .jmp 0 false [.v 3]) (
   .jmp 0 false [.c (.bool false)])) 1 <|
 .sub0 [.int .i64, .sl (.int .u32), .sl tUndo] (
  .prim (.fld 0) [.v 0] <|
  .prim (.clone 4) [.v 2] <|
  .prim (.fld 2) [.v 0] <|
  .prim (.clone 24) [.v 4] <|
  .prim (.fld 0) [.v 0] <|
  .prim (.fld 1) [.v 0] <|
  .prim (.fld 2) [.v 0] <|
  .jmp 0 false [.v 7, .v 3, .v 5]) 3 <|
 .prim (.un .not) [.v 1] <|
 .ite (.v 5) (
  .mkS tsLog [.v 3, .v 2, .v 4] <|
  .jmp 0 false [.v 6, .c (.int .i64 1)]) (
  .prim (.bin .add) [.v 2, .c (.int .i64 1)] <|
  .mkS tsLog [.v 3, .v 6, .v 4] <|
  .jmp 0 false [.v 7, .c (.int .i64 0)])
theorem a_undo_Next : treeOf cx 12 40 = some A_undo_Next.erase := by kernel_rfl
theorem k_undo_Next : FnOk cx 12 noC 40 F_undo_Next := fn_ok (t := A_undo_Next) a_undo_Next (fun _ => rfl) (ok_of [(61, F_undo_Right)] (by kernel_rfl) (.cons k_undo_Right .nil)) (fun x => by kernel_rfl)

/-! 41: backstay/undo.Room -/
noncomputable def undo_Room (p0 : Log) : Option Int :=
  (undo_Right p0).bind fun v1 =>
  if !v1 then
    some ((0 : Int))
  else
    some ((w64 ((256 : Int) - (List.length (Log.Lst p0) : Int))))
noncomputable def F_undo_Room : FnT := ⟨[tLog], [.int .i64], fun x => undo_Room x⟩
noncomputable def A_undo_Room : TA :=
 .call 61 F_undo_Right [.v 0] 1 <|
 .prim (.un .not) [.v 1] <|
 .ite (.v 2) (
  .jmp 0 false [.c (.int .i64 0)]) (
  .prim (.fld 2) [.v 0] <|
  .prim .len [.v 3] <|
  .prim (.bin .sub) [.c (.int .i64 256), .v 4] <|
  .jmp 0 false [.v 5])
theorem a_undo_Room : treeOf cx 12 41 = some A_undo_Room.erase := by kernel_rfl
theorem k_undo_Room : FnOk cx 12 noC 41 F_undo_Room := fn_ok (t := A_undo_Room) a_undo_Room (fun _ => rfl) (ok_of [(61, F_undo_Right)] (by kernel_rfl) (.cons k_undo_Right .nil)) (fun x => by kernel_rfl)

/-! 42: backstay/undo.Write -/
noncomputable def undo_Write_L1 (x1 : Int) (x4 : Int) (x6 : List Undo) (x8 : Int) (s : Int) : Option (Int ⊕ Unit ⊕ Int) :=
  if decide (s < x8) then
    (idxO (List.length x6 : Int) s).bind fun v11 =>
    (getO x6 v11).bind fun v12 =>
    if (decide ((Undo.Span v12) = x4)) && (decide ((Undo.At v12) = x1)) then
      some (Sum.inr (Sum.inr (s)))
    else
      some (Sum.inl (w64 (s + (1 : Int))))
  else
    some (Sum.inr (Sum.inl ()))
noncomputable def undo_Write (p0 : Log) (p1 : Int) (p2 : Int) : Option (Log × Int) :=
  (
    (undo_Right p0).bind fun v3 =>
    if v3 then
      if decide ((0 : Int) ≤ p1) then
        some ((decide (p1 < (List.length (Log.Mem p0) : Int))))
      else
        some (false)
    else
      some (false) : Option Bool).bind fun v3 =>
  (
    (cloneO 4 (Log.Mem p0)).bind fun v5 =>
    (cloneO 24 (Log.Lst p0)).bind fun v7 =>
    some ((Log.Span p0, v5, v7)) : Option (Int × (List Int) × (List Undo))).bind fun v4 =>
  if !v3 then
    some ((Log.mk v4.2.1 v4.1 v4.2.2, (1 : Int)))
  else
    (
      (
        let v8 : Int := (List.length v4.2.2 : Int)
        orExit (
          loopD (undo_Write_L1 p1 v4.1 v4.2.2 v8) (0 : Int) : Option (Unit ⊕ Int)) fun v9 =>
        some ((-1 : Int)) : Option Int).bind fun v8 =>
      some ((decide ((0 : Int) ≤ v8))) : Option Bool).bind fun v8 =>
    orExit (
      if v8 then
        some (Sum.inl v4.2.2)
      else
        if decide ((List.length v4.2.2 : Int) = (256 : Int)) then
          some (Sum.inr ((Log.mk v4.2.1 v4.1 v4.2.2, (6 : Int))))
        else
          (idxO (List.length v4.2.1 : Int) p1).bind fun v11 =>
          (getO v4.2.1 v11).bind fun v12 =>
          (appO 24 v4.2.2 ([Undo.mk v4.1 p1 v12] : List Undo)).bind fun v15 =>
          some (Sum.inl v15) : Option ((List Undo) ⊕ (Log × Int))) fun v9 =>
    (idxO (List.length v4.2.1 : Int) p1).bind fun v10 =>
    (setO v4.2.1 v10 p2).bind fun v11 =>
    some ((Log.mk v11 v4.1 v9, (0 : Int)))
noncomputable def F_undo_Write : FnT := ⟨[tLog, .int .i64, .int .u32], [tLog, .int .i64], fun x => undo_Write x.1 x.2.1 x.2.2⟩
noncomputable def A_undo_Write : TA :=
 .sub0 [.bool] (
  .call 61 F_undo_Right [.v 0] 1 <|
  .ite (.v 3) (
   .prim (.bin .geq) [.v 1, .c (.int .i64 0)] <|
   .ite (.v 4) (
    .prim (.fld 0) [.v 0] <|
    .prim .len [.v 5] <|
    .prim (.bin .lss) [.v 1, .v 6] <|
    .jmp 0 false [.v 7]) (
    .jmp 0 false [.c (.bool false)])) (
   .jmp 0 false [.c (.bool false)])) 1 <|
 .sub0 [.int .i64, .sl (.int .u32), .sl tUndo] (
  .prim (.fld 0) [.v 0] <|
  .prim (.clone 4) [.v 4] <|
  .prim (.fld 2) [.v 0] <|
  .prim (.clone 24) [.v 6] <|
  .prim (.fld 0) [.v 0] <|
  .prim (.fld 1) [.v 0] <|
  .prim (.fld 2) [.v 0] <|
  .jmp 0 false [.v 9, .v 5, .v 7]) 3 <|
 .prim (.un .not) [.v 3] <|
 .ite (.v 7) (
  .mkS tsLog [.v 5, .v 4, .v 6] <|
  .jmp 0 false [.v 8, .c (.int .i64 1)]) (
  .sub0 [.bool] (
   .sub0 [.int .i64] (
    .prim .len [.v 6] <|
    .sub1 [] (
     .loop [.int .i64] [.c (.int .i64 0)] (
      .prim (.bin .lss) [.v 9, .v 8] <|
      .ite (.v 10) (
       .prim .idx [.v 6, .v 9] <|
       .prim .get [.v 6, .v 11] <|
       .subp [.bool] (
        .subp [.bool] (
         .prim (.fld 0) [.v 12] <|
         .prim (.bin .eql) [.v 13, .v 4] <|
         .ite (.v 14) (
          .prim (.fld 1) [.v 12] <|
          .prim (.bin .eql) [.v 15, .v 1] <|
          .jmp 0 false [.v 16]) (
          .jmp 0 false [.c (.bool false)])) 1 <|
        .jmp 0 false [.v 13]) 1 <|
       .ite (.v 13) (
        .jmp 2 false [.v 9]) (
        .prim (.bin .add) [.v 9, .c (.int .i64 1)] <|
        .jmp 0 true [.v 14])) (
       .jmp 1 false []))) 0 <|
    .jmp 0 false [.c (.int .i64 (-1))]) 1 <|
   .prim (.bin .geq) [.v 8, .c (.int .i64 0)] <|
   .jmp 0 false [.v 9]) 1 <|
  .sub1 [.sl tUndo] (
   .ite (.v 8) (
    .jmp 0 false [.v 6]) (
    .prim .len [.v 6] <|
    .prim (.bin .eql) [.v 9, .c (.int .i64 256)] <|
    .ite (.v 10) (
     .mkS tsLog [.v 5, .v 4, .v 6] <|
     .jmp 1 false [.v 11, .c (.int .i64 6)]) (
     .prim .idx [.v 5, .v 1] <|
     .prim .get [.v 5, .v 11] <|
     .mkS tsUndo [.v 4, .v 1, .v 12] <|
     .mkL tUndo [.v 13] <|
     .prim (.app 24) [.v 6, .v 14] <|
     .jmp 0 false [.v 15]))) 1 <|
  .prim .idx [.v 5, .v 1] <|
  .prim .set [.v 5, .v 10, .v 2] <|
  .mkS tsLog [.v 11, .v 4, .v 9] <|
  .jmp 0 false [.v 12, .c (.int .i64 0)])
theorem a_undo_Write : treeOf cx 12 42 = some A_undo_Write.erase := by kernel_rfl
theorem k_undo_Write : FnOk cx 12 noC 42 F_undo_Write := fn_ok (t := A_undo_Write) a_undo_Write (fun _ => rfl) (ok_of [(61, F_undo_Right)] (by kernel_rfl) (.cons k_undo_Right .nil)) (fun x => by kernel_rfl)

/-! 43: backstay/undo.Back -/
noncomputable def undo_Back_L1 (x1 : Int) (x5 : List Undo) (s : (Int × Int × (List Int))) : Option ((Int × Int × (List Int)) ⊕ (Int × (List Int))) :=
  (
    if decide ((0 : Int) < s.1) then
      (idxvO (0 : Int) s.2.1 (w64 (s.1 - (1 : Int)))).bind fun v16 =>
      (getO x5 v16).bind fun v17 =>
      some ((decide (x1 ≤ (Undo.Span v17))))
    else
      some (false) : Option Bool).bind fun v14 =>
  if v14 then
    (idxvO (0 : Int) s.2.1 (w64 (s.1 - (1 : Int)))).bind fun v16 =>
    (getO x5 v16).bind fun v17 =>
    (rngvO (List.length x5 : Int) (0 : Int) (0 : Int) (w64 (s.1 - (1 : Int)))).bind fun v22 =>
    (idxO (List.length s.2.2 : Int) (Undo.At v17)).bind fun v23 =>
    (setO s.2.2 v23 (Undo.Val v17)).bind fun v24 =>
    some (Sum.inl (w64 (s.1 - (1 : Int)), v22, v24))
  else
    some (Sum.inr ((s.2.1, s.2.2)))
noncomputable def undo_Back (p0 : Log) (p1 : Int) : Option (Log × Int) :=
  (
    (undo_Right p0).bind fun v2 =>
    if v2 then
      some ((undo_span p1 (Log.Span p0)))
    else
      some (false) : Option Bool).bind fun v2 =>
  (
    (cloneO 4 (Log.Mem p0)).bind fun v4 =>
    (cloneO 24 (Log.Lst p0)).bind fun v6 =>
    some ((Log.Span p0, v4, v6)) : Option (Int × (List Int) × (List Undo))).bind fun v3 =>
  if !v2 then
    some ((Log.mk v3.2.1 v3.1 v3.2.2, (1 : Int)))
  else
    (
      loopD (undo_Back_L1 p1 v3.2.2) ((List.length v3.2.2 : Int), (List.length v3.2.2 : Int), v3.2.1) : Option (Int × (List Int))).bind fun v8 =>
    (subO v3.2.2 (0 : Int) v8.1).bind fun v10 =>
    some ((Log.mk v8.2 p1 v10, (0 : Int)))
noncomputable def F_undo_Back : FnT := ⟨[tLog, .int .i64], [tLog, .int .i64], fun x => undo_Back x.1 x.2⟩
noncomputable def A_undo_Back : TA :=
 .sub0 [.bool] (
  .call 61 F_undo_Right [.v 0] 1 <|
  .ite (.v 2) (
   .prim (.fld 1) [.v 0] <|
   .callp 78 F_undo_span [.v 1, .v 3] 1 <|
   .jmp 0 false [.v 4]) (
   .jmp 0 false [.c (.bool false)])) 1 <|
 .sub0 [.int .i64, .sl (.int .u32), .sl tUndo] (
  .prim (.fld 0) [.v 0] <|
  .prim (.clone 4) [.v 3] <|
  .prim (.fld 2) [.v 0] <|
  .prim (.clone 24) [.v 5] <|
  .prim (.fld 0) [.v 0] <|
  .prim (.fld 1) [.v 0] <|
  .prim (.fld 2) [.v 0] <|
  .jmp 0 false [.v 8, .v 4, .v 6]) 3 <|
 .prim (.un .not) [.v 2] <|
 .ite (.v 6) (
  .mkS tsLog [.v 4, .v 3, .v 5] <|
  .jmp 0 false [.v 7, .c (.int .i64 1)]) (
  .prim .len [.v 5] <|
  .sub0 [.int .i64, .sl (.int .u32)] (
   .subp [.int .i64, .int .i64, .sl (.int .u32)] (
    .prim .len [.v 5] <|
    .jmp 0 false [.v 7, .v 8, .v 4]) 3 <|
   .loop [.int .i64, .int .i64, .sl (.int .u32)] [.v 8, .v 9, .v 10] (
    .sub0 [.bool] (
     .prim (.bin .gtr) [.v 11, .c (.int .i64 0)] <|
     .ite (.v 14) (
      .prim (.bin .sub) [.v 11, .c (.int .i64 1)] <|
      .prim .idxv [.c (.int .i64 0), .v 12, .v 15] <|
      .prim .get [.v 5, .v 16] <|
      .prim (.fld 0) [.v 17] <|
      .prim (.bin .geq) [.v 18, .v 1] <|
      .jmp 0 false [.v 19]) (
      .jmp 0 false [.c (.bool false)])) 1 <|
    .ite (.v 14) (
     .prim (.bin .sub) [.v 11, .c (.int .i64 1)] <|
     .prim .idxv [.c (.int .i64 0), .v 12, .v 15] <|
     .prim .get [.v 5, .v 16] <|
     .prim (.fld 1) [.v 17] <|
     .prim (.fld 2) [.v 17] <|
     .prim (.bin .sub) [.v 11, .c (.int .i64 1)] <|
     .prim .vlen [.c (.int .i64 0), .v 12] <|
     .prim .rngv [.v 5, .c (.int .i64 0), .c (.int .i64 0), .v 20] <|
     .prim .idx [.v 13, .v 18] <|
     .prim .set [.v 13, .v 23, .v 19] <|
     .prim (.bin .sub) [.v 11, .c (.int .i64 1)] <|
     .jmp 0 true [.v 25, .v 22, .v 24]) (
     .jmp 1 false [.v 12, .v 13]))) 2 <|
  .prim .sub [.v 5, .c (.int .i64 0), .v 8] <|
  .mkS tsLog [.v 9, .v 1, .v 10] <|
  .jmp 0 false [.v 11, .c (.int .i64 0)])
theorem a_undo_Back : treeOf cx 12 43 = some A_undo_Back.erase := by kernel_rfl
theorem k_undo_Back : FnOk cx 12 noC 43 F_undo_Back := fn_ok (t := A_undo_Back) a_undo_Back (fun _ => rfl) (ok_of [(61, F_undo_Right), (78, F_undo_span.fn)] (by kernel_rfl) (.cons k_undo_Right (.cons k_undo_span .nil))) (fun x => by kernel_rfl)

/-! 56: backstay/undo.Trim -/
noncomputable def undo_Trim_L1 (x1 : Int) (s : (Int × Int × (List Undo))) : Option ((Int × Int × (List Undo)) ⊕ (Int × (List Undo))) :=
  if decide (s.2.1 < (List.length s.2.2 : Int)) then
    (idxO (List.length s.2.2 : Int) s.2.1).bind fun v15 =>
    (getO s.2.2 v15).bind fun v16 =>
    (
      if !(decide ((Undo.Span v16) < x1)) then
        (idxO (List.length s.2.2 : Int) s.1).bind fun v19 =>
        (setO s.2.2 v19 v16).bind fun v20 =>
        some ((w64 (s.1 + (1 : Int)), v20))
      else
        some ((s.1, s.2.2)) : Option (Int × (List Undo))).bind fun v19 =>
    some (Sum.inl (v19.1, w64 (s.2.1 + (1 : Int)), v19.2))
  else
    some (Sum.inr ((s.1, s.2.2)))
noncomputable def undo_Trim_L2 (x1 : Int) (x5 : List Undo) (x7 : Int) (s : Int) : Option (Int ⊕ Unit ⊕ Int) :=
  if decide (s < x7) then
    (idxO (List.length x5 : Int) s).bind fun v10 =>
    (getO x5 v10).bind fun v11 =>
    if decide ((Undo.Span v11) < x1) then
      some (Sum.inr (Sum.inr (s)))
    else
      some (Sum.inl (w64 (s + (1 : Int))))
  else
    some (Sum.inr (Sum.inl ()))
noncomputable def undo_Trim (p0 : Log) (p1 : Int) : Option (Log × Int) :=
  (
    (undo_Right p0).bind fun v2 =>
    if v2 then
      some ((undo_span p1 (Log.Span p0)))
    else
      some (false) : Option Bool).bind fun v2 =>
  (
    (cloneO 4 (Log.Mem p0)).bind fun v4 =>
    (cloneO 24 (Log.Lst p0)).bind fun v6 =>
    some ((Log.Span p0, v4, v6)) : Option (Int × (List Int) × (List Undo))).bind fun v3 =>
  if !v2 then
    some ((Log.mk v3.2.1 v3.1 v3.2.2, (1 : Int)))
  else
    (
      (
        let v7 : Int := (List.length v3.2.2 : Int)
        orExit (
          loopD (undo_Trim_L2 p1 v3.2.2 v7) (0 : Int) : Option (Unit ⊕ Int)) fun v8 =>
        some ((-1 : Int)) : Option Int).bind fun v7 =>
      if decide (v7 = (-1 : Int)) then
        some (((List.length v3.2.2 : Int), v3.2.2))
      else
        (
          loopD (undo_Trim_L1 p1) (v7, w64 (v7 + (1 : Int)), v3.2.2) : Option (Int × (List Undo))).bind fun v10 =>
        (rngO (List.length v10.2 : Int) v10.1 (List.length v10.2 : Int)).bind fun v13 =>
        (subO v10.2 v10.1 v13).bind fun v14 =>
        (cpyvO v10.2 v10.1 v13 (List.replicate (List.length v14) (Undo.mk (0 : Int) (0 : Int) (0 : Int)))).bind fun v16 =>
        (rngO (List.length v16 : Int) (0 : Int) v10.1).bind fun v18 =>
        some ((v18, v16)) : Option (Int × (List Undo))).bind fun v7 =>
    (subO v7.2 (0 : Int) v7.1).bind fun v9 =>
    some ((Log.mk v3.2.1 v3.1 v9, (0 : Int)))
noncomputable def F_undo_Trim : FnT := ⟨[tLog, .int .i64], [tLog, .int .i64], fun x => undo_Trim x.1 x.2⟩
noncomputable def A_undo_Trim : TA :=
 .sub0 [.bool] (
  .call 61 F_undo_Right [.v 0] 1 <|
  .ite (.v 2) (
   .prim (.fld 1) [.v 0] <|
   .callp 78 F_undo_span [.v 1, .v 3] 1 <|
   .jmp 0 false [.v 4]) (
   .jmp 0 false [.c (.bool false)])) 1 <|
 .sub0 [.int .i64, .sl (.int .u32), .sl tUndo] (
  .prim (.fld 0) [.v 0] <|
  .prim (.clone 4) [.v 3] <|
  .prim (.fld 2) [.v 0] <|
  .prim (.clone 24) [.v 5] <|
  .prim (.fld 0) [.v 0] <|
  .prim (.fld 1) [.v 0] <|
  .prim (.fld 2) [.v 0] <|
  .jmp 0 false [.v 8, .v 4, .v 6]) 3 <|
 .prim (.un .not) [.v 2] <|
 .ite (.v 6) (
  .mkS tsLog [.v 4, .v 3, .v 5] <|
  .jmp 0 false [.v 7, .c (.int .i64 1)]) (
  .sub0 [.int .i64, .sl tUndo] (
   .sub0 [.int .i64] (
    .prim .len [.v 5] <|
    .sub1 [] (
     .loop [.int .i64] [.c (.int .i64 0)] (
      .prim (.bin .lss) [.v 8, .v 7] <|
      .ite (.v 9) (
       .prim .idx [.v 5, .v 8] <|
       .prim .get [.v 5, .v 10] <|
       .subp [.bool] (
        .prim (.fld 0) [.v 11] <|
        .prim (.bin .lss) [.v 12, .v 1] <|
        .jmp 0 false [.v 13]) 1 <|
       .ite (.v 12) (
        .jmp 2 false [.v 8]) (
        .prim (.bin .add) [.v 8, .c (.int .i64 1)] <|
        .jmp 0 true [.v 13])) (
       .jmp 1 false []))) 0 <|
    .jmp 0 false [.c (.int .i64 (-1))]) 1 <|
   .prim (.bin .eql) [.v 7, .c (.int .i64 (-1))] <|
   .ite (.v 8) (
    .prim .len [.v 5] <|
    .jmp 0 false [.v 9, .v 5]) (
    .prim (.bin .add) [.v 7, .c (.int .i64 1)] <|
    .sub0 [.int .i64, .sl tUndo] (
     .loop [.int .i64, .int .i64, .sl tUndo] [.v 7, .v 9, .v 5] (
      .prim .len [.v 12] <|
      .prim (.bin .lss) [.v 11, .v 13] <|
      .ite (.v 14) (
       .prim .idx [.v 12, .v 11] <|
       .prim .get [.v 12, .v 15] <|
       .subp [.bool] (
        .prim (.fld 0) [.v 16] <|
        .prim (.bin .lss) [.v 17, .v 1] <|
        .jmp 0 false [.v 18]) 1 <|
       .prim (.un .not) [.v 17] <|
       .sub0 [.int .i64, .sl tUndo] (
        .ite (.v 18) (
         .prim .idx [.v 12, .v 10] <|
         .prim .set [.v 12, .v 19, .v 16] <|
         .prim (.bin .add) [.v 10, .c (.int .i64 1)] <|
         .jmp 0 false [.v 21, .v 20]) (
         .jmp 0 false [.v 10, .v 12])) 2 <|
       .prim (.bin .add) [.v 11, .c (.int .i64 1)] <|
       .jmp 0 true [.v 19, .v 21, .v 20]) (
       .jmp 1 false [.v 10, .v 12]))) 2 <|
    .prim .len [.v 11] <|
    .prim .rng [.v 11, .v 10, .v 12] <|
    .prim .sub [.v 11, .v 10, .v 13] <|
    .prim (.clr (.agg [(.int .i64 0), (.int .i64 0), (.int .u32 0)])) [.v 14] <|
    .prim .cpyv [.v 11, .v 10, .v 13, .v 15] <|
    .prim .len [.v 16] <|
    .prim .rng [.v 16, .c (.int .i64 0), .v 10] <|
    .jmp 0 false [.v 18, .v 16])) 2 <|
  .prim .sub [.v 8, .c (.int .i64 0), .v 7] <|
  .mkS tsLog [.v 4, .v 3, .v 9] <|
  .jmp 0 false [.v 10, .c (.int .i64 0)])
theorem a_undo_Trim : treeOf cx 12 56 = some A_undo_Trim.erase := by kernel_rfl
theorem k_undo_Trim : FnOk cx 12 noC 56 F_undo_Trim := fn_ok (t := A_undo_Trim) a_undo_Trim (fun _ => rfl) (ok_of [(61, F_undo_Right), (78, F_undo_span.fn)] (by kernel_rfl) (.cons k_undo_Right (.cons k_undo_span .nil))) (fun x => by kernel_rfl)

/-! 39: backstay/backstaylaw11.awake -/
def l11_awake : Bool := true
def F_l11_awake : PnT := ⟨[], [.bool], fun _ => l11_awake⟩
theorem k_l11_awake : FnOk cx 12 noC 39 F_l11_awake.fn := fun ds x r hx hr => by
  have hx : ds = [] := hx
  subst hx
  exact ⟨[.bool true], call_now 100 12 (by kernel_rfl), .bool true, rfl, congrArg D.bool (Option.some.inj hr)⟩

end Go.Proofs.Ytklkpogdghiagaa
