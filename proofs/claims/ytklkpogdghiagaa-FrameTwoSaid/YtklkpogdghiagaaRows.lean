/-
  No cell of these rows narrows 'for every input' (looked for: loops, veiled, ifaces, maps, wideKeys, modest, calm, conditions, laid).
  DERIVED. THE GIVEN ROWS OF THIS SEAT. 11 by the template 'for every input the law returns true; each argument reads behind the call as it read before'; 0 by the template 'total and deterministic' (their statements: YtklkpogdghiagaaTotals.lean).
  GIVEN WITH THE SEED: the statements are not yours to turn. If you find one false, say at which input.
  Laid BY PROGRAM, IN A SANDBOX (cutbox-rows.mjs): the forced cells as the released guide's own fill.sh prints them over the translation 08c812e09542763e… (all of the seat's roots in one cut). By AI agents, Wed Nov 11 2026. No macro, syntax, notation, axiom, sorry.
-/
import Derived.Test.YtklkpogdghiagaaChecked
import GoSem.Claim
import GoSem.ClaimJoined
import GoSem.ClaimMapViews
import Derived.JoinedTies
import Derived.KernelRfl
namespace Go.Proofs.Ytklkpogdghiagaa
/- THE CELL 'sum', in the pinned program and in every row, IS THE sha256 OF THE DUMP (.gsa) THAT YtklkpogdghiagaaProg.lean LOADS. Nothing in Lean hashes anything: it is a label: what it is worth is what the hold of that sum in a sandbox is worth. -/
noncomputable def Try.pinned : Pinned := { name := "ytklkpogdghiagaa", sum := "08c812e09542763e20a4f2b481a095bff116d7eee6e7b47a83ee885b41357f45", checked := Try.checked }
namespace Rows
def none {H : Type} : Left H := { results := [], args := [] }

/-- 'backstaylaw09.DirecAll': WHATEVER THE INPUT: true; the input reads as it did. -/
def direcAllSpec : ChangeSpec := { name := "direcAll", fn := fun _ => fun
  | [d1, d2, d3] => { results := [.lit (.bool true)], args := [d1, d2, d3] }
  | _ => none }
def direcAllRow : OpenClaim := { program := "ytklkpogdghiagaa", sum := "08c812e09542763e20a4f2b481a095bff116d7eee6e7b47a83ee885b41357f45", func := "backstay/backstaylaw09.DirecAll", spec := "direcAll", plainKeys := false, apart := false }
def DirecAllSaid : Prop := direcAllRow.holds Try.pinned (OpenSpec.ofChange direcAllSpec)

/-- ITS FALSE NEIGHBOUR: 'it returns false'. Refute it at one input. -/
def direcAllWrong : ChangeSpec := { name := "direcAll", fn := fun _ => fun
  | [d1, d2, d3] => { results := [.lit (.bool false)], args := [d1, d2, d3] }
  | _ => none }
def DirecAllWrongFalsely : Prop := direcAllRow.holds Try.pinned (OpenSpec.ofChange direcAllWrong)

/-- 'backstaylaw12.ClockKeeps': WHATEVER THE INPUT: true; the input reads as it did. -/
def clockKeepsSpec : ChangeSpec := { name := "clockKeeps", fn := fun _ => fun
  | [d1, d2, d3] => { results := [.lit (.bool true)], args := [d1, d2, d3] }
  | _ => none }
def clockKeepsRow : OpenClaim := { program := "ytklkpogdghiagaa", sum := "08c812e09542763e20a4f2b481a095bff116d7eee6e7b47a83ee885b41357f45", func := "backstay/backstaylaw12.ClockKeeps", spec := "clockKeeps", plainKeys := false, apart := false }
def ClockKeepsSaid : Prop := clockKeepsRow.holds Try.pinned (OpenSpec.ofChange clockKeepsSpec)

/-- ITS FALSE NEIGHBOUR: 'it returns false'. Refute it at one input. -/
def clockKeepsWrong : ChangeSpec := { name := "clockKeeps", fn := fun _ => fun
  | [d1, d2, d3] => { results := [.lit (.bool false)], args := [d1, d2, d3] }
  | _ => none }
def ClockKeepsWrongFalsely : Prop := clockKeepsRow.holds Try.pinned (OpenSpec.ofChange clockKeepsWrong)

/-- 'backstaylaw09.DirecRight': WHATEVER THE INPUT: true; the input reads as it did. -/
def direcRightSpec : ChangeSpec := { name := "direcRight", fn := fun _ => fun
  | [d1, d2, d3] => { results := [.lit (.bool true)], args := [d1, d2, d3] }
  | _ => none }
def direcRightRow : OpenClaim := { program := "ytklkpogdghiagaa", sum := "08c812e09542763e20a4f2b481a095bff116d7eee6e7b47a83ee885b41357f45", func := "backstay/backstaylaw09.DirecRight", spec := "direcRight", plainKeys := false, apart := false }
def DirecRightSaid : Prop := direcRightRow.holds Try.pinned (OpenSpec.ofChange direcRightSpec)

/-- ITS FALSE NEIGHBOUR: 'it returns false'. Refute it at one input. -/
def direcRightWrong : ChangeSpec := { name := "direcRight", fn := fun _ => fun
  | [d1, d2, d3] => { results := [.lit (.bool false)], args := [d1, d2, d3] }
  | _ => none }
def DirecRightWrongFalsely : Prop := direcRightRow.holds Try.pinned (OpenSpec.ofChange direcRightWrong)

/-- 'backstaylaw09.DirecOne': WHATEVER THE INPUT: true; the input reads as it did. -/
def direcOneSpec : ChangeSpec := { name := "direcOne", fn := fun _ => fun
  | [d1, d2] => { results := [.lit (.bool true)], args := [d1, d2] }
  | _ => none }
def direcOneRow : OpenClaim := { program := "ytklkpogdghiagaa", sum := "08c812e09542763e20a4f2b481a095bff116d7eee6e7b47a83ee885b41357f45", func := "backstay/backstaylaw09.DirecOne", spec := "direcOne", plainKeys := false, apart := false }
def DirecOneSaid : Prop := direcOneRow.holds Try.pinned (OpenSpec.ofChange direcOneSpec)

/-- ITS FALSE NEIGHBOUR: 'it returns false'. Refute it at one input. -/
def direcOneWrong : ChangeSpec := { name := "direcOne", fn := fun _ => fun
  | [d1, d2] => { results := [.lit (.bool false)], args := [d1, d2] }
  | _ => none }
def DirecOneWrongFalsely : Prop := direcOneRow.holds Try.pinned (OpenSpec.ofChange direcOneWrong)

/-- 'backstaylaw12.ClockSure': WHATEVER THE INPUT: true; the input reads as it did. -/
def clockSureSpec : ChangeSpec := { name := "clockSure", fn := fun _ => fun
  | [d1, d2] => { results := [.lit (.bool true)], args := [d1, d2] }
  | _ => none }
def clockSureRow : OpenClaim := { program := "ytklkpogdghiagaa", sum := "08c812e09542763e20a4f2b481a095bff116d7eee6e7b47a83ee885b41357f45", func := "backstay/backstaylaw12.ClockSure", spec := "clockSure", plainKeys := false, apart := false }
def ClockSureSaid : Prop := clockSureRow.holds Try.pinned (OpenSpec.ofChange clockSureSpec)

/-- ITS FALSE NEIGHBOUR: 'it returns false'. Refute it at one input. -/
def clockSureWrong : ChangeSpec := { name := "clockSure", fn := fun _ => fun
  | [d1, d2] => { results := [.lit (.bool false)], args := [d1, d2] }
  | _ => none }
def ClockSureWrongFalsely : Prop := clockSureRow.holds Try.pinned (OpenSpec.ofChange clockSureWrong)

/-- 'backstaylaw11.UndoOnce': WHATEVER THE INPUT: true; the input reads as it did. -/
def undoOnceSpec : ChangeSpec := { name := "undoOnce", fn := fun _ => fun
  | [d1, d2, d3] => { results := [.lit (.bool true)], args := [d1, d2, d3] }
  | _ => none }
def undoOnceRow : OpenClaim := { program := "ytklkpogdghiagaa", sum := "08c812e09542763e20a4f2b481a095bff116d7eee6e7b47a83ee885b41357f45", func := "backstay/backstaylaw11.UndoOnce", spec := "undoOnce", unfollowed := true, recurses := true, plainKeys := false, apart := false }
def UndoOnceSaid : Prop := undoOnceRow.holds Try.pinned (OpenSpec.ofChange undoOnceSpec)

/-- ITS FALSE NEIGHBOUR: 'it returns false'. Refute it at one input. -/
def undoOnceWrong : ChangeSpec := { name := "undoOnce", fn := fun _ => fun
  | [d1, d2, d3] => { results := [.lit (.bool false)], args := [d1, d2, d3] }
  | _ => none }
def UndoOnceWrongFalsely : Prop := undoOnceRow.holds Try.pinned (OpenSpec.ofChange undoOnceWrong)

/-- 'backstaylaw05.FrameRight': WHATEVER THE INPUT: true; the input reads as it did. -/
def frameRightSpec : ChangeSpec := { name := "frameRight", fn := fun _ => fun
  | [d1, d2] => { results := [.lit (.bool true)], args := [d1, d2] }
  | _ => none }
def frameRightRow : OpenClaim := { program := "ytklkpogdghiagaa", sum := "08c812e09542763e20a4f2b481a095bff116d7eee6e7b47a83ee885b41357f45", func := "backstay/backstaylaw05.FrameRight", spec := "frameRight", unfollowed := true, recurses := true, plainKeys := false, apart := false }
def FrameRightSaid : Prop := frameRightRow.holds Try.pinned (OpenSpec.ofChange frameRightSpec)

/-- ITS FALSE NEIGHBOUR: 'it returns false'. Refute it at one input. -/
def frameRightWrong : ChangeSpec := { name := "frameRight", fn := fun _ => fun
  | [d1, d2] => { results := [.lit (.bool false)], args := [d1, d2] }
  | _ => none }
def FrameRightWrongFalsely : Prop := frameRightRow.holds Try.pinned (OpenSpec.ofChange frameRightWrong)

/-- 'backstaylaw05.FrameTells': WHATEVER THE INPUT: true; the input reads as it did. -/
def frameTellsSpec : ChangeSpec := { name := "frameTells", fn := fun _ => fun
  | [d1, d2, d3, d4] => { results := [.lit (.bool true)], args := [d1, d2, d3, d4] }
  | _ => none }
def frameTellsRow : OpenClaim := { program := "ytklkpogdghiagaa", sum := "08c812e09542763e20a4f2b481a095bff116d7eee6e7b47a83ee885b41357f45", func := "backstay/backstaylaw05.FrameTells", spec := "frameTells", unfollowed := true, recurses := true, plainKeys := false, apart := false }
def FrameTellsSaid : Prop := frameTellsRow.holds Try.pinned (OpenSpec.ofChange frameTellsSpec)

/-- ITS FALSE NEIGHBOUR: 'it returns false'. Refute it at one input. -/
def frameTellsWrong : ChangeSpec := { name := "frameTells", fn := fun _ => fun
  | [d1, d2, d3, d4] => { results := [.lit (.bool false)], args := [d1, d2, d3, d4] }
  | _ => none }
def FrameTellsWrongFalsely : Prop := frameTellsRow.holds Try.pinned (OpenSpec.ofChange frameTellsWrong)

/-- 'backstaylaw05.FrameTwo': WHATEVER THE INPUT: true; the input reads as it did. -/
def frameTwoSpec : ChangeSpec := { name := "frameTwo", fn := fun _ => fun
  | [d1, d2, d3, d4] => { results := [.lit (.bool true)], args := [d1, d2, d3, d4] }
  | _ => none }
def frameTwoRow : OpenClaim := { program := "ytklkpogdghiagaa", sum := "08c812e09542763e20a4f2b481a095bff116d7eee6e7b47a83ee885b41357f45", func := "backstay/backstaylaw05.FrameTwo", spec := "frameTwo", unfollowed := true, recurses := true, plainKeys := false, apart := false }
def FrameTwoSaid : Prop := frameTwoRow.holds Try.pinned (OpenSpec.ofChange frameTwoSpec)

/-- ITS FALSE NEIGHBOUR: 'it returns false'. Refute it at one input. -/
def frameTwoWrong : ChangeSpec := { name := "frameTwo", fn := fun _ => fun
  | [d1, d2, d3, d4] => { results := [.lit (.bool false)], args := [d1, d2, d3, d4] }
  | _ => none }
def FrameTwoWrongFalsely : Prop := frameTwoRow.holds Try.pinned (OpenSpec.ofChange frameTwoWrong)

/-- 'backstaylaw11.UndoRight': WHATEVER THE INPUT: true; the input reads as it did. -/
def undoRightSpec : ChangeSpec := { name := "undoRight", fn := fun _ => fun
  | [d1, d2, d3, d4, d5] => { results := [.lit (.bool true)], args := [d1, d2, d3, d4, d5] }
  | _ => none }
def undoRightRow : OpenClaim := { program := "ytklkpogdghiagaa", sum := "08c812e09542763e20a4f2b481a095bff116d7eee6e7b47a83ee885b41357f45", func := "backstay/backstaylaw11.UndoRight", spec := "undoRight", unfollowed := true, recurses := true, plainKeys := false, apart := false }
def UndoRightSaid : Prop := undoRightRow.holds Try.pinned (OpenSpec.ofChange undoRightSpec)

/-- ITS FALSE NEIGHBOUR: 'it returns false'. Refute it at one input. -/
def undoRightWrong : ChangeSpec := { name := "undoRight", fn := fun _ => fun
  | [d1, d2, d3, d4, d5] => { results := [.lit (.bool false)], args := [d1, d2, d3, d4, d5] }
  | _ => none }
def UndoRightWrongFalsely : Prop := undoRightRow.holds Try.pinned (OpenSpec.ofChange undoRightWrong)

/-- 'backstaylaw11.UndoBack': WHATEVER THE INPUT: true; the input reads as it did. -/
def undoBackSpec : ChangeSpec := { name := "undoBack", fn := fun _ => fun
  | [d1, d2] => { results := [.lit (.bool true)], args := [d1, d2] }
  | _ => none }
def undoBackRow : OpenClaim := { program := "ytklkpogdghiagaa", sum := "08c812e09542763e20a4f2b481a095bff116d7eee6e7b47a83ee885b41357f45", func := "backstay/backstaylaw11.UndoBack", spec := "undoBack", unfollowed := true, recurses := true, plainKeys := false, apart := false }
def UndoBackSaid : Prop := undoBackRow.holds Try.pinned (OpenSpec.ofChange undoBackSpec)

/-- ITS FALSE NEIGHBOUR: 'it returns false'. Refute it at one input. -/
def undoBackWrong : ChangeSpec := { name := "undoBack", fn := fun _ => fun
  | [d1, d2] => { results := [.lit (.bool false)], args := [d1, d2] }
  | _ => none }
def UndoBackWrongFalsely : Prop := undoBackRow.holds Try.pinned (OpenSpec.ofChange undoBackWrong)

/- THE SECOND FORM. 'bulk': how many values and letters a reading holds, each counted each time it is reached (what is shared counts as often as it is met; a slice's spare places count too). A statement '..UptoSaid' is the law's where the arguments, and the package variables that the reading takes, are together of bulk at most 1048576: NARROWER than '..Said'. Prove '..Said' where nothing that the law and all that it calls make is longer than what came in: it says more and counts as full. Else prove '..UptoSaid'. A law counts once. -/
mutual
def uptoBulk {H : Type} : DataW H → Nat
  | .lit (.string bytes) => bytes.length + 1
  | .lit _ => 1
  | .nil => 1
  | .ptr d => uptoBulk d + 1
  | .slice elems spare => uptoBulkAll elems + uptoBulkAll spare + 1
  | .agg parts => uptoBulkAll parts + 1
  | .iface _ d => uptoBulk d + 1
  | .map entries => uptoBulkEntries entries + 1
  | .held _ => 1
def uptoBulkAll {H : Type} : List (DataW H) → Nat
  | [] => 0
  | d :: r => uptoBulk d + uptoBulkAll r
def uptoBulkEntries {H : Type} : List (Lit × DataW H) → Nat
  | [] => 0
  | x :: r => uptoBulkEntry x + uptoBulkEntries r
def uptoBulkEntry {H : Type} : Lit × DataW H → Nat
  | (.string bytes, d) => bytes.length + uptoBulk d + 1
  | (_, d) => uptoBulk d + 1
 end
def uptoSmall : (H : Type) → List (DataW H) → Bool := fun _ ds => decide (uptoBulkAll ds ≤ 1048576)
def OpenSpec.upto (s : _root_.Go.ChangeSpec) : _root_.Go.OpenSpec := { _root_.Go.OpenSpec.ofChange s with cond := some uptoSmall }

/-- 'backstaylaw09.DirecAll', WHERE WHAT IT READS IS OF BULK AT MOST 1048576: true; the input reads as it did. -/
def direcAllUptoRow : OpenClaim := { program := "ytklkpogdghiagaa", sum := "08c812e09542763e20a4f2b481a095bff116d7eee6e7b47a83ee885b41357f45", func := "backstay/backstaylaw09.DirecAll", spec := "direcAll", plainKeys := false, apart := false, narrowed := true }
def DirecAllUptoSaid : Prop := direcAllUptoRow.holds Try.pinned (OpenSpec.upto direcAllSpec)

/-- 'backstaylaw12.ClockKeeps', WHERE WHAT IT READS IS OF BULK AT MOST 1048576: true; the input reads as it did. -/
def clockKeepsUptoRow : OpenClaim := { program := "ytklkpogdghiagaa", sum := "08c812e09542763e20a4f2b481a095bff116d7eee6e7b47a83ee885b41357f45", func := "backstay/backstaylaw12.ClockKeeps", spec := "clockKeeps", plainKeys := false, apart := false, narrowed := true }
def ClockKeepsUptoSaid : Prop := clockKeepsUptoRow.holds Try.pinned (OpenSpec.upto clockKeepsSpec)

/-- 'backstaylaw09.DirecRight', WHERE WHAT IT READS IS OF BULK AT MOST 1048576: true; the input reads as it did. -/
def direcRightUptoRow : OpenClaim := { program := "ytklkpogdghiagaa", sum := "08c812e09542763e20a4f2b481a095bff116d7eee6e7b47a83ee885b41357f45", func := "backstay/backstaylaw09.DirecRight", spec := "direcRight", plainKeys := false, apart := false, narrowed := true }
def DirecRightUptoSaid : Prop := direcRightUptoRow.holds Try.pinned (OpenSpec.upto direcRightSpec)

/-- 'backstaylaw09.DirecOne', WHERE WHAT IT READS IS OF BULK AT MOST 1048576: true; the input reads as it did. -/
def direcOneUptoRow : OpenClaim := { program := "ytklkpogdghiagaa", sum := "08c812e09542763e20a4f2b481a095bff116d7eee6e7b47a83ee885b41357f45", func := "backstay/backstaylaw09.DirecOne", spec := "direcOne", plainKeys := false, apart := false, narrowed := true }
def DirecOneUptoSaid : Prop := direcOneUptoRow.holds Try.pinned (OpenSpec.upto direcOneSpec)

/-- 'backstaylaw12.ClockSure', WHERE WHAT IT READS IS OF BULK AT MOST 1048576: true; the input reads as it did. -/
def clockSureUptoRow : OpenClaim := { program := "ytklkpogdghiagaa", sum := "08c812e09542763e20a4f2b481a095bff116d7eee6e7b47a83ee885b41357f45", func := "backstay/backstaylaw12.ClockSure", spec := "clockSure", plainKeys := false, apart := false, narrowed := true }
def ClockSureUptoSaid : Prop := clockSureUptoRow.holds Try.pinned (OpenSpec.upto clockSureSpec)

/-- 'backstaylaw11.UndoOnce', WHERE WHAT IT READS IS OF BULK AT MOST 1048576: true; the input reads as it did. -/
def undoOnceUptoRow : OpenClaim := { program := "ytklkpogdghiagaa", sum := "08c812e09542763e20a4f2b481a095bff116d7eee6e7b47a83ee885b41357f45", func := "backstay/backstaylaw11.UndoOnce", spec := "undoOnce", unfollowed := true, recurses := true, plainKeys := false, apart := false, narrowed := true }
def UndoOnceUptoSaid : Prop := undoOnceUptoRow.holds Try.pinned (OpenSpec.upto undoOnceSpec)

/-- 'backstaylaw05.FrameRight', WHERE WHAT IT READS IS OF BULK AT MOST 1048576: true; the input reads as it did. -/
def frameRightUptoRow : OpenClaim := { program := "ytklkpogdghiagaa", sum := "08c812e09542763e20a4f2b481a095bff116d7eee6e7b47a83ee885b41357f45", func := "backstay/backstaylaw05.FrameRight", spec := "frameRight", unfollowed := true, recurses := true, plainKeys := false, apart := false, narrowed := true }
def FrameRightUptoSaid : Prop := frameRightUptoRow.holds Try.pinned (OpenSpec.upto frameRightSpec)

/-- 'backstaylaw05.FrameTells', WHERE WHAT IT READS IS OF BULK AT MOST 1048576: true; the input reads as it did. -/
def frameTellsUptoRow : OpenClaim := { program := "ytklkpogdghiagaa", sum := "08c812e09542763e20a4f2b481a095bff116d7eee6e7b47a83ee885b41357f45", func := "backstay/backstaylaw05.FrameTells", spec := "frameTells", unfollowed := true, recurses := true, plainKeys := false, apart := false, narrowed := true }
def FrameTellsUptoSaid : Prop := frameTellsUptoRow.holds Try.pinned (OpenSpec.upto frameTellsSpec)

/-- 'backstaylaw05.FrameTwo', WHERE WHAT IT READS IS OF BULK AT MOST 1048576: true; the input reads as it did. -/
def frameTwoUptoRow : OpenClaim := { program := "ytklkpogdghiagaa", sum := "08c812e09542763e20a4f2b481a095bff116d7eee6e7b47a83ee885b41357f45", func := "backstay/backstaylaw05.FrameTwo", spec := "frameTwo", unfollowed := true, recurses := true, plainKeys := false, apart := false, narrowed := true }
def FrameTwoUptoSaid : Prop := frameTwoUptoRow.holds Try.pinned (OpenSpec.upto frameTwoSpec)

/-- 'backstaylaw11.UndoRight', WHERE WHAT IT READS IS OF BULK AT MOST 1048576: true; the input reads as it did. -/
def undoRightUptoRow : OpenClaim := { program := "ytklkpogdghiagaa", sum := "08c812e09542763e20a4f2b481a095bff116d7eee6e7b47a83ee885b41357f45", func := "backstay/backstaylaw11.UndoRight", spec := "undoRight", unfollowed := true, recurses := true, plainKeys := false, apart := false, narrowed := true }
def UndoRightUptoSaid : Prop := undoRightUptoRow.holds Try.pinned (OpenSpec.upto undoRightSpec)

/-- 'backstaylaw11.UndoBack', WHERE WHAT IT READS IS OF BULK AT MOST 1048576: true; the input reads as it did. -/
def undoBackUptoRow : OpenClaim := { program := "ytklkpogdghiagaa", sum := "08c812e09542763e20a4f2b481a095bff116d7eee6e7b47a83ee885b41357f45", func := "backstay/backstaylaw11.UndoBack", spec := "undoBack", unfollowed := true, recurses := true, plainKeys := false, apart := false, narrowed := true }
def UndoBackUptoSaid : Prop := undoBackUptoRow.holds Try.pinned (OpenSpec.upto undoBackSpec)

end Rows
end Go.Proofs.Ytklkpogdghiagaa
