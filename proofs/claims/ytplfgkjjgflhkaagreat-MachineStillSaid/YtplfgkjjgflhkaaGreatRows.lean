/-
  No cell of these rows narrows 'for every input' (looked for: loops, veiled, ifaces, maps, wideKeys, modest, calm, conditions, laid).
  DERIVED. THE GIVEN ROWS OF THIS SEAT. 3 by the template 'for every input the law returns true; each argument reads behind the call as it read before'; 0 by the template 'total and deterministic' (their statements: YtplfgkjjgflhkaaGreatTotals.lean).
  GIVEN WITH THE SEED: the statements are not yours to turn. If you find one false, say at which input.
  Laid BY PROGRAM, IN A SANDBOX (cutbox-rows.mjs): the forced cells as the released guide's own fill.sh prints them over the translation ffc6edcacaa4fa70… (all of the seat's roots in one cut). By AI agents, Wed Nov 11 2026. No macro, syntax, notation, axiom, sorry.
-/
import Derived.Test.YtplfgkjjgflhkaaGreatChecked
import GoSem.Claim
import GoSem.ClaimJoined
import GoSem.ClaimMapViews
import Derived.JoinedTies
import Derived.KernelRfl
namespace Go.Proofs.YtplfgkjjgflhkaaGreat
/- THE CELL 'sum', in the pinned program and in every row, IS THE sha256 OF THE DUMP (.gsa) THAT YtplfgkjjgflhkaaGreatProg.lean LOADS. Nothing in Lean hashes anything: it is a label: what it is worth is what the hold of that sum in a sandbox is worth. -/
noncomputable def Tryz.pinned : Pinned := { name := "ytplfgkjjgflhkaagreat", sum := "ffc6edcacaa4fa701e3f77c27936c7624996890ed13c99d323d3b2822f2c7f06", checked := Tryz.checked }
namespace Rows
def none {H : Type} : Left H := { results := [], args := [] }

/-- 'backstaylaw16.MachineEnds': WHATEVER THE INPUT: true; the input reads as it did. -/
def machineEndsSpec : ChangeSpec := { name := "machineEnds", fn := fun _ => fun
  | [d1, d2, d3] => { results := [.lit (.bool true)], args := [d1, d2, d3] }
  | _ => none }
def machineEndsRow : OpenClaim := { program := "ytplfgkjjgflhkaagreat", sum := "ffc6edcacaa4fa701e3f77c27936c7624996890ed13c99d323d3b2822f2c7f06", func := "backstay/backstaylaw16.MachineEnds", spec := "machineEnds", unfollowed := true, recurses := true, plainKeys := false, apart := false }
def MachineEndsSaid : Prop := machineEndsRow.holds Tryz.pinned (OpenSpec.ofChange machineEndsSpec)

/-- ITS FALSE NEIGHBOUR: 'it returns false'. Refute it at one input. -/
def machineEndsWrong : ChangeSpec := { name := "machineEnds", fn := fun _ => fun
  | [d1, d2, d3] => { results := [.lit (.bool false)], args := [d1, d2, d3] }
  | _ => none }
def MachineEndsWrongFalsely : Prop := machineEndsRow.holds Tryz.pinned (OpenSpec.ofChange machineEndsWrong)

/-- 'backstaylaw16.MachineStill': WHATEVER THE INPUT: true; the input reads as it did. -/
def machineStillSpec : ChangeSpec := { name := "machineStill", fn := fun _ => fun
  | [d1, d2, d3, d4, d5] => { results := [.lit (.bool true)], args := [d1, d2, d3, d4, d5] }
  | _ => none }
def machineStillRow : OpenClaim := { program := "ytplfgkjjgflhkaagreat", sum := "ffc6edcacaa4fa701e3f77c27936c7624996890ed13c99d323d3b2822f2c7f06", func := "backstay/backstaylaw16.MachineStill", spec := "machineStill", unfollowed := true, recurses := true, plainKeys := false, apart := false }
def MachineStillSaid : Prop := machineStillRow.holds Tryz.pinned (OpenSpec.ofChange machineStillSpec)

/-- ITS FALSE NEIGHBOUR: 'it returns false'. Refute it at one input. -/
def machineStillWrong : ChangeSpec := { name := "machineStill", fn := fun _ => fun
  | [d1, d2, d3, d4, d5] => { results := [.lit (.bool false)], args := [d1, d2, d3, d4, d5] }
  | _ => none }
def MachineStillWrongFalsely : Prop := machineStillRow.holds Tryz.pinned (OpenSpec.ofChange machineStillWrong)

/-- 'backstaylaw16.MachineSame': WHATEVER THE INPUT: true; the input reads as it did. -/
def machineSameSpec : ChangeSpec := { name := "machineSame", fn := fun _ => fun
  | [d1, d2, d3, d4, d5] => { results := [.lit (.bool true)], args := [d1, d2, d3, d4, d5] }
  | _ => none }
def machineSameRow : OpenClaim := { program := "ytplfgkjjgflhkaagreat", sum := "ffc6edcacaa4fa701e3f77c27936c7624996890ed13c99d323d3b2822f2c7f06", func := "backstay/backstaylaw16.MachineSame", spec := "machineSame", unfollowed := true, recurses := true, plainKeys := false, apart := false }
def MachineSameSaid : Prop := machineSameRow.holds Tryz.pinned (OpenSpec.ofChange machineSameSpec)

/-- ITS FALSE NEIGHBOUR: 'it returns false'. Refute it at one input. -/
def machineSameWrong : ChangeSpec := { name := "machineSame", fn := fun _ => fun
  | [d1, d2, d3, d4, d5] => { results := [.lit (.bool false)], args := [d1, d2, d3, d4, d5] }
  | _ => none }
def MachineSameWrongFalsely : Prop := machineSameRow.holds Tryz.pinned (OpenSpec.ofChange machineSameWrong)

/- THE SECOND FORM. 'bulk': how many values and letters a reading holds, each counted each time it is reached (what is shared counts as often as it is met; a slice's spare places count too). A statement '..UptoSaid' is the law's where the arguments, and the package variables that the reading takes, are together of bulk at most 1048576: NARROWER than '..Said'. Prove '..Said' where nothing that the law and all that it calls make is longer than what came in: it says more and counts as full. Else prove '..UptoSaid'. A law counts once. -/
mutual
def uptoBulk {H : Type} : DataW H → Nat
  | .lit (.string bytes) => bytes.length + 1
  | .lit _ => 1
  | .nil => 1
  | .ptr d => uptoBulk d + 1
  | .slice elems spare => uptoBulkAll elems + uptoBulkAll spare + 1
  | .agg parts => uptoBulkAll parts + 1
  | .iface _ d => uptoBulk d + 1
  | .map entries => uptoBulkEntries entries + 1
  | .held _ => 1
def uptoBulkAll {H : Type} : List (DataW H) → Nat
  | [] => 0
  | d :: r => uptoBulk d + uptoBulkAll r
def uptoBulkEntries {H : Type} : List (Lit × DataW H) → Nat
  | [] => 0
  | x :: r => uptoBulkEntry x + uptoBulkEntries r
def uptoBulkEntry {H : Type} : Lit × DataW H → Nat
  | (.string bytes, d) => bytes.length + uptoBulk d + 1
  | (_, d) => uptoBulk d + 1
 end
def uptoSmall : (H : Type) → List (DataW H) → Bool := fun _ ds => decide (uptoBulkAll ds ≤ 1048576)
def OpenSpec.upto (s : _root_.Go.ChangeSpec) : _root_.Go.OpenSpec := { _root_.Go.OpenSpec.ofChange s with cond := some uptoSmall }

/-- 'backstaylaw16.MachineEnds', WHERE WHAT IT READS IS OF BULK AT MOST 1048576: true; the input reads as it did. -/
def machineEndsUptoRow : OpenClaim := { program := "ytplfgkjjgflhkaagreat", sum := "ffc6edcacaa4fa701e3f77c27936c7624996890ed13c99d323d3b2822f2c7f06", func := "backstay/backstaylaw16.MachineEnds", spec := "machineEnds", unfollowed := true, recurses := true, plainKeys := false, apart := false, narrowed := true }
def MachineEndsUptoSaid : Prop := machineEndsUptoRow.holds Tryz.pinned (OpenSpec.upto machineEndsSpec)

/-- 'backstaylaw16.MachineStill', WHERE WHAT IT READS IS OF BULK AT MOST 1048576: true; the input reads as it did. -/
def machineStillUptoRow : OpenClaim := { program := "ytplfgkjjgflhkaagreat", sum := "ffc6edcacaa4fa701e3f77c27936c7624996890ed13c99d323d3b2822f2c7f06", func := "backstay/backstaylaw16.MachineStill", spec := "machineStill", unfollowed := true, recurses := true, plainKeys := false, apart := false, narrowed := true }
def MachineStillUptoSaid : Prop := machineStillUptoRow.holds Tryz.pinned (OpenSpec.upto machineStillSpec)

/-- 'backstaylaw16.MachineSame', WHERE WHAT IT READS IS OF BULK AT MOST 1048576: true; the input reads as it did. -/
def machineSameUptoRow : OpenClaim := { program := "ytplfgkjjgflhkaagreat", sum := "ffc6edcacaa4fa701e3f77c27936c7624996890ed13c99d323d3b2822f2c7f06", func := "backstay/backstaylaw16.MachineSame", spec := "machineSame", unfollowed := true, recurses := true, plainKeys := false, apart := false, narrowed := true }
def MachineSameUptoSaid : Prop := machineSameUptoRow.holds Tryz.pinned (OpenSpec.upto machineSameSpec)

end Rows
end Go.Proofs.YtplfgkjjgflhkaaGreat
