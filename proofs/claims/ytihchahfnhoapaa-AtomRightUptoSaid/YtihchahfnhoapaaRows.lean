/-
  No cell of these rows narrows 'for every input' (looked for: loops, veiled, ifaces, maps, wideKeys, modest, calm, conditions, laid).
  DERIVED. THE GIVEN ROWS OF THIS SEAT. 10 by the template 'for every input the law returns true; each argument reads behind the call as it read before'; 0 by the template 'total and deterministic' (their statements: YtihchahfnhoapaaTotals.lean).
  GIVEN WITH THE SEED: the statements are not yours to turn. If you find one false, say at which input.
  Laid BY PROGRAM, IN A SANDBOX (cutbox-rows.mjs): the forced cells as the released guide's own fill.sh prints them over the translation 9e1bf5555d2ef713… (all of the seat's roots in one cut). By AI agents, Wed Nov 11 2026. No macro, syntax, notation, axiom, sorry.
-/
import Derived.Test.YtihchahfnhoapaaChecked
import GoSem.Claim
import GoSem.ClaimJoined
import GoSem.ClaimMapViews
import Derived.JoinedTies
import Derived.KernelRfl
namespace Go.Proofs.Ytihchahfnhoapaa
/- THE CELL 'sum', in the pinned program and in every row, IS THE sha256 OF THE DUMP (.gsa) THAT YtihchahfnhoapaaProg.lean LOADS. Nothing in Lean hashes anything: it is a label: what it is worth is what the hold of that sum in a sandbox is worth. -/
noncomputable def Try.pinned : Pinned := { name := "ytihchahfnhoapaa", sum := "9e1bf5555d2ef713b3e205804f523639f4b7115c9fe1bc877c6e0bb509d12852", checked := Try.checked }
namespace Rows
def none {H : Type} : Left H := { results := [], args := [] }

/-- 'backstaylaw22.WatchRight': WHATEVER THE INPUT: true; the input reads as it did. -/
def watchRightSpec : ChangeSpec := { name := "watchRight", fn := fun _ => fun
  | [d1, d2] => { results := [.lit (.bool true)], args := [d1, d2] }
  | _ => none }
def watchRightRow : OpenClaim := { program := "ytihchahfnhoapaa", sum := "9e1bf5555d2ef713b3e205804f523639f4b7115c9fe1bc877c6e0bb509d12852", func := "backstay/backstaylaw22.WatchRight", spec := "watchRight", unfollowed := true, recurses := true, apart := false }
def WatchRightSaid : Prop := watchRightRow.holds Try.pinned (OpenSpec.ofChange watchRightSpec)

/-- ITS FALSE NEIGHBOUR: 'it returns false'. Refute it at one input. -/
def watchRightWrong : ChangeSpec := { name := "watchRight", fn := fun _ => fun
  | [d1, d2] => { results := [.lit (.bool false)], args := [d1, d2] }
  | _ => none }
def WatchRightWrongFalsely : Prop := watchRightRow.holds Try.pinned (OpenSpec.ofChange watchRightWrong)

/-- 'backstaylaw22.WatchWho': WHATEVER THE INPUT: true; the input reads as it did. -/
def watchWhoSpec : ChangeSpec := { name := "watchWho", fn := fun _ => fun
  | [d1, d2] => { results := [.lit (.bool true)], args := [d1, d2] }
  | _ => none }
def watchWhoRow : OpenClaim := { program := "ytihchahfnhoapaa", sum := "9e1bf5555d2ef713b3e205804f523639f4b7115c9fe1bc877c6e0bb509d12852", func := "backstay/backstaylaw22.WatchWho", spec := "watchWho", unfollowed := true, recurses := true, apart := false }
def WatchWhoSaid : Prop := watchWhoRow.holds Try.pinned (OpenSpec.ofChange watchWhoSpec)

/-- ITS FALSE NEIGHBOUR: 'it returns false'. Refute it at one input. -/
def watchWhoWrong : ChangeSpec := { name := "watchWho", fn := fun _ => fun
  | [d1, d2] => { results := [.lit (.bool false)], args := [d1, d2] }
  | _ => none }
def WatchWhoWrongFalsely : Prop := watchWhoRow.holds Try.pinned (OpenSpec.ofChange watchWhoWrong)

/-- 'backstaylaw06.PoolOrder': WHATEVER THE INPUT: true; the input reads as it did. -/
def poolOrderSpec : ChangeSpec := { name := "poolOrder", fn := fun _ => fun
  | [d] => { results := [.lit (.bool true)], args := [d] }
  | _ => none }
def poolOrderRow : OpenClaim := { program := "ytihchahfnhoapaa", sum := "9e1bf5555d2ef713b3e205804f523639f4b7115c9fe1bc877c6e0bb509d12852", func := "backstay/backstaylaw06.PoolOrder", spec := "poolOrder", unfollowed := true, recurses := true, apart := false }
def PoolOrderSaid : Prop := poolOrderRow.holds Try.pinned (OpenSpec.ofChange poolOrderSpec)

/-- ITS FALSE NEIGHBOUR: 'it returns false'. Refute it at one input. -/
def poolOrderWrong : ChangeSpec := { name := "poolOrder", fn := fun _ => fun
  | [d] => { results := [.lit (.bool false)], args := [d] }
  | _ => none }
def PoolOrderWrongFalsely : Prop := poolOrderRow.holds Try.pinned (OpenSpec.ofChange poolOrderWrong)

/-- 'backstaylaw04.AtomRuns': WHATEVER THE INPUT: true; the input reads as it did. -/
def atomRunsSpec : ChangeSpec := { name := "atomRuns", fn := fun _ => fun
  | [d1, d2, d3] => { results := [.lit (.bool true)], args := [d1, d2, d3] }
  | _ => none }
def atomRunsRow : OpenClaim := { program := "ytihchahfnhoapaa", sum := "9e1bf5555d2ef713b3e205804f523639f4b7115c9fe1bc877c6e0bb509d12852", func := "backstay/backstaylaw04.AtomRuns", spec := "atomRuns", unfollowed := true, recurses := true, apart := false }
def AtomRunsSaid : Prop := atomRunsRow.holds Try.pinned (OpenSpec.ofChange atomRunsSpec)

/-- ITS FALSE NEIGHBOUR: 'it returns false'. Refute it at one input. -/
def atomRunsWrong : ChangeSpec := { name := "atomRuns", fn := fun _ => fun
  | [d1, d2, d3] => { results := [.lit (.bool false)], args := [d1, d2, d3] }
  | _ => none }
def AtomRunsWrongFalsely : Prop := atomRunsRow.holds Try.pinned (OpenSpec.ofChange atomRunsWrong)

/-- 'backstaylaw06.PoolRight': WHATEVER THE INPUT: true; the input reads as it did. -/
def poolRightSpec : ChangeSpec := { name := "poolRight", fn := fun _ => fun
  | [d1, d2, d3, d4] => { results := [.lit (.bool true)], args := [d1, d2, d3, d4] }
  | _ => none }
def poolRightRow : OpenClaim := { program := "ytihchahfnhoapaa", sum := "9e1bf5555d2ef713b3e205804f523639f4b7115c9fe1bc877c6e0bb509d12852", func := "backstay/backstaylaw06.PoolRight", spec := "poolRight", unfollowed := true, recurses := true, apart := false }
def PoolRightSaid : Prop := poolRightRow.holds Try.pinned (OpenSpec.ofChange poolRightSpec)

/-- ITS FALSE NEIGHBOUR: 'it returns false'. Refute it at one input. -/
def poolRightWrong : ChangeSpec := { name := "poolRight", fn := fun _ => fun
  | [d1, d2, d3, d4] => { results := [.lit (.bool false)], args := [d1, d2, d3, d4] }
  | _ => none }
def PoolRightWrongFalsely : Prop := poolRightRow.holds Try.pinned (OpenSpec.ofChange poolRightWrong)

/-- 'backstaylaw06.PoolKeeps': WHATEVER THE INPUT: true; the input reads as it did. -/
def poolKeepsSpec : ChangeSpec := { name := "poolKeeps", fn := fun _ => fun
  | [d] => { results := [.lit (.bool true)], args := [d] }
  | _ => none }
def poolKeepsRow : OpenClaim := { program := "ytihchahfnhoapaa", sum := "9e1bf5555d2ef713b3e205804f523639f4b7115c9fe1bc877c6e0bb509d12852", func := "backstay/backstaylaw06.PoolKeeps", spec := "poolKeeps", unfollowed := true, recurses := true, apart := false }
def PoolKeepsSaid : Prop := poolKeepsRow.holds Try.pinned (OpenSpec.ofChange poolKeepsSpec)

/-- ITS FALSE NEIGHBOUR: 'it returns false'. Refute it at one input. -/
def poolKeepsWrong : ChangeSpec := { name := "poolKeeps", fn := fun _ => fun
  | [d] => { results := [.lit (.bool false)], args := [d] }
  | _ => none }
def PoolKeepsWrongFalsely : Prop := poolKeepsRow.holds Try.pinned (OpenSpec.ofChange poolKeepsWrong)

/-- 'backstaylaw04.AtomReplays': WHATEVER THE INPUT: true; the input reads as it did. -/
def atomReplaysSpec : ChangeSpec := { name := "atomReplays", fn := fun _ => fun
  | [d1, d2, d3] => { results := [.lit (.bool true)], args := [d1, d2, d3] }
  | _ => none }
def atomReplaysRow : OpenClaim := { program := "ytihchahfnhoapaa", sum := "9e1bf5555d2ef713b3e205804f523639f4b7115c9fe1bc877c6e0bb509d12852", func := "backstay/backstaylaw04.AtomReplays", spec := "atomReplays", unfollowed := true, recurses := true, apart := false }
def AtomReplaysSaid : Prop := atomReplaysRow.holds Try.pinned (OpenSpec.ofChange atomReplaysSpec)

/-- ITS FALSE NEIGHBOUR: 'it returns false'. Refute it at one input. -/
def atomReplaysWrong : ChangeSpec := { name := "atomReplays", fn := fun _ => fun
  | [d1, d2, d3] => { results := [.lit (.bool false)], args := [d1, d2, d3] }
  | _ => none }
def AtomReplaysWrongFalsely : Prop := atomReplaysRow.holds Try.pinned (OpenSpec.ofChange atomReplaysWrong)

/-- 'backstaylaw04.AtomTurns': WHATEVER THE INPUT: true; the input reads as it did. -/
def atomTurnsSpec : ChangeSpec := { name := "atomTurns", fn := fun _ => fun
  | [d1, d2, d3, d4, d5] => { results := [.lit (.bool true)], args := [d1, d2, d3, d4, d5] }
  | _ => none }
def atomTurnsRow : OpenClaim := { program := "ytihchahfnhoapaa", sum := "9e1bf5555d2ef713b3e205804f523639f4b7115c9fe1bc877c6e0bb509d12852", func := "backstay/backstaylaw04.AtomTurns", spec := "atomTurns", unfollowed := true, recurses := true, apart := false }
def AtomTurnsSaid : Prop := atomTurnsRow.holds Try.pinned (OpenSpec.ofChange atomTurnsSpec)

/-- ITS FALSE NEIGHBOUR: 'it returns false'. Refute it at one input. -/
def atomTurnsWrong : ChangeSpec := { name := "atomTurns", fn := fun _ => fun
  | [d1, d2, d3, d4, d5] => { results := [.lit (.bool false)], args := [d1, d2, d3, d4, d5] }
  | _ => none }
def AtomTurnsWrongFalsely : Prop := atomTurnsRow.holds Try.pinned (OpenSpec.ofChange atomTurnsWrong)

/-- 'backstaylaw04.AtomRight': WHATEVER THE INPUT: true; the input reads as it did. -/
def atomRightSpec : ChangeSpec := { name := "atomRight", fn := fun _ => fun
  | [d1, d2, d3, d4, d5] => { results := [.lit (.bool true)], args := [d1, d2, d3, d4, d5] }
  | _ => none }
def atomRightRow : OpenClaim := { program := "ytihchahfnhoapaa", sum := "9e1bf5555d2ef713b3e205804f523639f4b7115c9fe1bc877c6e0bb509d12852", func := "backstay/backstaylaw04.AtomRight", spec := "atomRight", unfollowed := true, recurses := true, apart := false }
def AtomRightSaid : Prop := atomRightRow.holds Try.pinned (OpenSpec.ofChange atomRightSpec)

/-- ITS FALSE NEIGHBOUR: 'it returns false'. Refute it at one input. -/
def atomRightWrong : ChangeSpec := { name := "atomRight", fn := fun _ => fun
  | [d1, d2, d3, d4, d5] => { results := [.lit (.bool false)], args := [d1, d2, d3, d4, d5] }
  | _ => none }
def AtomRightWrongFalsely : Prop := atomRightRow.holds Try.pinned (OpenSpec.ofChange atomRightWrong)

/-- 'backstaylaw21.TraceRuns': WHATEVER THE INPUT: true; the input reads as it did. -/
def traceRunsSpec : ChangeSpec := { name := "traceRuns", fn := fun _ => fun
  | [d1, d2, d3, d4] => { results := [.lit (.bool true)], args := [d1, d2, d3, d4] }
  | _ => none }
def traceRunsRow : OpenClaim := { program := "ytihchahfnhoapaa", sum := "9e1bf5555d2ef713b3e205804f523639f4b7115c9fe1bc877c6e0bb509d12852", func := "backstay/backstaylaw21.TraceRuns", spec := "traceRuns", unfollowed := true, recurses := true, apart := false }
def TraceRunsSaid : Prop := traceRunsRow.holds Try.pinned (OpenSpec.ofChange traceRunsSpec)

/-- ITS FALSE NEIGHBOUR: 'it returns false'. Refute it at one input. -/
def traceRunsWrong : ChangeSpec := { name := "traceRuns", fn := fun _ => fun
  | [d1, d2, d3, d4] => { results := [.lit (.bool false)], args := [d1, d2, d3, d4] }
  | _ => none }
def TraceRunsWrongFalsely : Prop := traceRunsRow.holds Try.pinned (OpenSpec.ofChange traceRunsWrong)

/- THE SECOND FORM. 'bulk': how many values and letters a reading holds, each counted each time it is reached (what is shared counts as often as it is met; a slice's spare places count too). A statement '..UptoSaid' is the law's where the arguments, and the package variables that the reading takes, are together of bulk at most 1048576: NARROWER than '..Said'. Prove '..Said' where nothing that the law and all that it calls make is longer than what came in: it says more and counts as full. Else prove '..UptoSaid'. A law counts once. -/
mutual
def uptoBulk {H : Type} : DataW H → Nat
  | .lit (.string bytes) => bytes.length + 1
  | .lit _ => 1
  | .nil => 1
  | .ptr d => uptoBulk d + 1
  | .slice elems spare => uptoBulkAll elems + uptoBulkAll spare + 1
  | .agg parts => uptoBulkAll parts + 1
  | .iface _ d => uptoBulk d + 1
  | .map entries => uptoBulkEntries entries + 1
  | .held _ => 1
def uptoBulkAll {H : Type} : List (DataW H) → Nat
  | [] => 0
  | d :: r => uptoBulk d + uptoBulkAll r
def uptoBulkEntries {H : Type} : List (Lit × DataW H) → Nat
  | [] => 0
  | x :: r => uptoBulkEntry x + uptoBulkEntries r
def uptoBulkEntry {H : Type} : Lit × DataW H → Nat
  | (.string bytes, d) => bytes.length + uptoBulk d + 1
  | (_, d) => uptoBulk d + 1
 end
def uptoSmall : (H : Type) → List (DataW H) → Bool := fun _ ds => decide (uptoBulkAll ds ≤ 1048576)
def OpenSpec.upto (s : _root_.Go.ChangeSpec) : _root_.Go.OpenSpec := { _root_.Go.OpenSpec.ofChange s with cond := some uptoSmall }

/-- 'backstaylaw22.WatchRight', WHERE WHAT IT READS IS OF BULK AT MOST 1048576: true; the input reads as it did. -/
def watchRightUptoRow : OpenClaim := { program := "ytihchahfnhoapaa", sum := "9e1bf5555d2ef713b3e205804f523639f4b7115c9fe1bc877c6e0bb509d12852", func := "backstay/backstaylaw22.WatchRight", spec := "watchRight", unfollowed := true, recurses := true, apart := false, narrowed := true }
def WatchRightUptoSaid : Prop := watchRightUptoRow.holds Try.pinned (OpenSpec.upto watchRightSpec)

/-- 'backstaylaw22.WatchWho', WHERE WHAT IT READS IS OF BULK AT MOST 1048576: true; the input reads as it did. -/
def watchWhoUptoRow : OpenClaim := { program := "ytihchahfnhoapaa", sum := "9e1bf5555d2ef713b3e205804f523639f4b7115c9fe1bc877c6e0bb509d12852", func := "backstay/backstaylaw22.WatchWho", spec := "watchWho", unfollowed := true, recurses := true, apart := false, narrowed := true }
def WatchWhoUptoSaid : Prop := watchWhoUptoRow.holds Try.pinned (OpenSpec.upto watchWhoSpec)

/-- 'backstaylaw06.PoolOrder', WHERE WHAT IT READS IS OF BULK AT MOST 1048576: true; the input reads as it did. -/
def poolOrderUptoRow : OpenClaim := { program := "ytihchahfnhoapaa", sum := "9e1bf5555d2ef713b3e205804f523639f4b7115c9fe1bc877c6e0bb509d12852", func := "backstay/backstaylaw06.PoolOrder", spec := "poolOrder", unfollowed := true, recurses := true, apart := false, narrowed := true }
def PoolOrderUptoSaid : Prop := poolOrderUptoRow.holds Try.pinned (OpenSpec.upto poolOrderSpec)

/-- 'backstaylaw04.AtomRuns', WHERE WHAT IT READS IS OF BULK AT MOST 1048576: true; the input reads as it did. -/
def atomRunsUptoRow : OpenClaim := { program := "ytihchahfnhoapaa", sum := "9e1bf5555d2ef713b3e205804f523639f4b7115c9fe1bc877c6e0bb509d12852", func := "backstay/backstaylaw04.AtomRuns", spec := "atomRuns", unfollowed := true, recurses := true, apart := false, narrowed := true }
def AtomRunsUptoSaid : Prop := atomRunsUptoRow.holds Try.pinned (OpenSpec.upto atomRunsSpec)

/-- 'backstaylaw06.PoolRight', WHERE WHAT IT READS IS OF BULK AT MOST 1048576: true; the input reads as it did. -/
def poolRightUptoRow : OpenClaim := { program := "ytihchahfnhoapaa", sum := "9e1bf5555d2ef713b3e205804f523639f4b7115c9fe1bc877c6e0bb509d12852", func := "backstay/backstaylaw06.PoolRight", spec := "poolRight", unfollowed := true, recurses := true, apart := false, narrowed := true }
def PoolRightUptoSaid : Prop := poolRightUptoRow.holds Try.pinned (OpenSpec.upto poolRightSpec)

/-- 'backstaylaw06.PoolKeeps', WHERE WHAT IT READS IS OF BULK AT MOST 1048576: true; the input reads as it did. -/
def poolKeepsUptoRow : OpenClaim := { program := "ytihchahfnhoapaa", sum := "9e1bf5555d2ef713b3e205804f523639f4b7115c9fe1bc877c6e0bb509d12852", func := "backstay/backstaylaw06.PoolKeeps", spec := "poolKeeps", unfollowed := true, recurses := true, apart := false, narrowed := true }
def PoolKeepsUptoSaid : Prop := poolKeepsUptoRow.holds Try.pinned (OpenSpec.upto poolKeepsSpec)

/-- 'backstaylaw04.AtomReplays', WHERE WHAT IT READS IS OF BULK AT MOST 1048576: true; the input reads as it did. -/
def atomReplaysUptoRow : OpenClaim := { program := "ytihchahfnhoapaa", sum := "9e1bf5555d2ef713b3e205804f523639f4b7115c9fe1bc877c6e0bb509d12852", func := "backstay/backstaylaw04.AtomReplays", spec := "atomReplays", unfollowed := true, recurses := true, apart := false, narrowed := true }
def AtomReplaysUptoSaid : Prop := atomReplaysUptoRow.holds Try.pinned (OpenSpec.upto atomReplaysSpec)

/-- 'backstaylaw04.AtomTurns', WHERE WHAT IT READS IS OF BULK AT MOST 1048576: true; the input reads as it did. -/
def atomTurnsUptoRow : OpenClaim := { program := "ytihchahfnhoapaa", sum := "9e1bf5555d2ef713b3e205804f523639f4b7115c9fe1bc877c6e0bb509d12852", func := "backstay/backstaylaw04.AtomTurns", spec := "atomTurns", unfollowed := true, recurses := true, apart := false, narrowed := true }
def AtomTurnsUptoSaid : Prop := atomTurnsUptoRow.holds Try.pinned (OpenSpec.upto atomTurnsSpec)

/-- 'backstaylaw04.AtomRight', WHERE WHAT IT READS IS OF BULK AT MOST 1048576: true; the input reads as it did. -/
def atomRightUptoRow : OpenClaim := { program := "ytihchahfnhoapaa", sum := "9e1bf5555d2ef713b3e205804f523639f4b7115c9fe1bc877c6e0bb509d12852", func := "backstay/backstaylaw04.AtomRight", spec := "atomRight", unfollowed := true, recurses := true, apart := false, narrowed := true }
def AtomRightUptoSaid : Prop := atomRightUptoRow.holds Try.pinned (OpenSpec.upto atomRightSpec)

/-- 'backstaylaw21.TraceRuns', WHERE WHAT IT READS IS OF BULK AT MOST 1048576: true; the input reads as it did. -/
def traceRunsUptoRow : OpenClaim := { program := "ytihchahfnhoapaa", sum := "9e1bf5555d2ef713b3e205804f523639f4b7115c9fe1bc877c6e0bb509d12852", func := "backstay/backstaylaw21.TraceRuns", spec := "traceRuns", unfollowed := true, recurses := true, apart := false, narrowed := true }
def TraceRunsUptoSaid : Prop := traceRunsUptoRow.holds Try.pinned (OpenSpec.upto traceRunsSpec)

end Rows
end Go.Proofs.Ytihchahfnhoapaa
