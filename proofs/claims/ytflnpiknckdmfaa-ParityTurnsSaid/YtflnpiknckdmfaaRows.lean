/-
  No cell of these rows narrows 'for every input' (looked for: loops, veiled, ifaces, maps, wideKeys, modest, calm, conditions, laid).
  DERIVED. THE GIVEN ROWS OF THIS SEAT. 11 by the template 'for every input the law returns true; each argument reads behind the call as it read before'; 0 by the template 'total and deterministic' (their statements: YtflnpiknckdmfaaTotals.lean).
  GIVEN WITH THE SEED: the statements are not yours to turn. If you find one false, say at which input.
  Laid BY PROGRAM, IN A SANDBOX (cutbox-rows.mjs): the forced cells as the released guide's own fill.sh prints them over the translation de1e8d3028f900d5… (all of the seat's roots in one cut). By AI agents, Wed Nov 11 2026. No macro, syntax, notation, axiom, sorry.
-/
import Derived.Test.YtflnpiknckdmfaaChecked
import GoSem.Claim
import GoSem.ClaimJoined
import GoSem.ClaimMapViews
import Derived.JoinedTies
import Derived.KernelRfl
namespace Go.Proofs.Ytflnpiknckdmfaa
/- THE CELL 'sum', in the pinned program and in every row, IS THE sha256 OF THE DUMP (.gsa) THAT YtflnpiknckdmfaaProg.lean LOADS. Nothing in Lean hashes anything: it is a label: what it is worth is what the hold of that sum in a sandbox is worth. -/
noncomputable def Try.pinned : Pinned := { name := "ytflnpiknckdmfaa", sum := "de1e8d3028f900d588eb3d5199ca70aa139728c56ab342e812c0848c709d1a62", checked := Try.checked }
namespace Rows
def none {H : Type} : Left H := { results := [], args := [] }

/-- 'backstaylaw23.FairRight': WHATEVER THE INPUT: true; the input reads as it did. -/
def fairRightSpec : ChangeSpec := { name := "fairRight", fn := fun _ => fun
  | [d1, d2, d3, d4, d5, d6] => { results := [.lit (.bool true)], args := [d1, d2, d3, d4, d5, d6] }
  | _ => none }
def fairRightRow : OpenClaim := { program := "ytflnpiknckdmfaa", sum := "de1e8d3028f900d588eb3d5199ca70aa139728c56ab342e812c0848c709d1a62", func := "backstay/backstaylaw23.FairRight", spec := "fairRight", apart := false }
def FairRightSaid : Prop := fairRightRow.holds Try.pinned (OpenSpec.ofChange fairRightSpec)

/-- ITS FALSE NEIGHBOUR: 'it returns false'. Refute it at one input. -/
def fairRightWrong : ChangeSpec := { name := "fairRight", fn := fun _ => fun
  | [d1, d2, d3, d4, d5, d6] => { results := [.lit (.bool false)], args := [d1, d2, d3, d4, d5, d6] }
  | _ => none }
def FairRightWrongFalsely : Prop := fairRightRow.holds Try.pinned (OpenSpec.ofChange fairRightWrong)

/-- 'backstaylaw23.FairMade': WHATEVER THE INPUT: true; the input reads as it did. -/
def fairMadeSpec : ChangeSpec := { name := "fairMade", fn := fun _ => fun
  | [d1, d2, d3, d4, d5, d6, d7] => { results := [.lit (.bool true)], args := [d1, d2, d3, d4, d5, d6, d7] }
  | _ => none }
def fairMadeRow : OpenClaim := { program := "ytflnpiknckdmfaa", sum := "de1e8d3028f900d588eb3d5199ca70aa139728c56ab342e812c0848c709d1a62", func := "backstay/backstaylaw23.FairMade", spec := "fairMade", apart := false }
def FairMadeSaid : Prop := fairMadeRow.holds Try.pinned (OpenSpec.ofChange fairMadeSpec)

/-- ITS FALSE NEIGHBOUR: 'it returns false'. Refute it at one input. -/
def fairMadeWrong : ChangeSpec := { name := "fairMade", fn := fun _ => fun
  | [d1, d2, d3, d4, d5, d6, d7] => { results := [.lit (.bool false)], args := [d1, d2, d3, d4, d5, d6, d7] }
  | _ => none }
def FairMadeWrongFalsely : Prop := fairMadeRow.holds Try.pinned (OpenSpec.ofChange fairMadeWrong)

/-- 'backstaylaw07.ParityRight': WHATEVER THE INPUT: true; the input reads as it did. -/
def parityRightSpec : ChangeSpec := { name := "parityRight", fn := fun _ => fun
  | [d1, d2, d3, d4, d5, d6] => { results := [.lit (.bool true)], args := [d1, d2, d3, d4, d5, d6] }
  | _ => none }
def parityRightRow : OpenClaim := { program := "ytflnpiknckdmfaa", sum := "de1e8d3028f900d588eb3d5199ca70aa139728c56ab342e812c0848c709d1a62", func := "backstay/backstaylaw07.ParityRight", spec := "parityRight", unfollowed := true, recurses := true, apart := false }
def ParityRightSaid : Prop := parityRightRow.holds Try.pinned (OpenSpec.ofChange parityRightSpec)

/-- ITS FALSE NEIGHBOUR: 'it returns false'. Refute it at one input. -/
def parityRightWrong : ChangeSpec := { name := "parityRight", fn := fun _ => fun
  | [d1, d2, d3, d4, d5, d6] => { results := [.lit (.bool false)], args := [d1, d2, d3, d4, d5, d6] }
  | _ => none }
def ParityRightWrongFalsely : Prop := parityRightRow.holds Try.pinned (OpenSpec.ofChange parityRightWrong)

/-- 'backstaylaw07.ParityRebuilds': WHATEVER THE INPUT: true; the input reads as it did. -/
def parityRebuildsSpec : ChangeSpec := { name := "parityRebuilds", fn := fun _ => fun
  | [d1, d2, d3, d4] => { results := [.lit (.bool true)], args := [d1, d2, d3, d4] }
  | _ => none }
def parityRebuildsRow : OpenClaim := { program := "ytflnpiknckdmfaa", sum := "de1e8d3028f900d588eb3d5199ca70aa139728c56ab342e812c0848c709d1a62", func := "backstay/backstaylaw07.ParityRebuilds", spec := "parityRebuilds", unfollowed := true, recurses := true, apart := false }
def ParityRebuildsSaid : Prop := parityRebuildsRow.holds Try.pinned (OpenSpec.ofChange parityRebuildsSpec)

/-- ITS FALSE NEIGHBOUR: 'it returns false'. Refute it at one input. -/
def parityRebuildsWrong : ChangeSpec := { name := "parityRebuilds", fn := fun _ => fun
  | [d1, d2, d3, d4] => { results := [.lit (.bool false)], args := [d1, d2, d3, d4] }
  | _ => none }
def ParityRebuildsWrongFalsely : Prop := parityRebuildsRow.holds Try.pinned (OpenSpec.ofChange parityRebuildsWrong)

/-- 'backstaylaw07.ParityTurns': WHATEVER THE INPUT: true; the input reads as it did. -/
def parityTurnsSpec : ChangeSpec := { name := "parityTurns", fn := fun _ => fun
  | [d1, d2, d3, d4] => { results := [.lit (.bool true)], args := [d1, d2, d3, d4] }
  | _ => none }
def parityTurnsRow : OpenClaim := { program := "ytflnpiknckdmfaa", sum := "de1e8d3028f900d588eb3d5199ca70aa139728c56ab342e812c0848c709d1a62", func := "backstay/backstaylaw07.ParityTurns", spec := "parityTurns", unfollowed := true, recurses := true, apart := false }
def ParityTurnsSaid : Prop := parityTurnsRow.holds Try.pinned (OpenSpec.ofChange parityTurnsSpec)

/-- ITS FALSE NEIGHBOUR: 'it returns false'. Refute it at one input. -/
def parityTurnsWrong : ChangeSpec := { name := "parityTurns", fn := fun _ => fun
  | [d1, d2, d3, d4] => { results := [.lit (.bool false)], args := [d1, d2, d3, d4] }
  | _ => none }
def ParityTurnsWrongFalsely : Prop := parityTurnsRow.holds Try.pinned (OpenSpec.ofChange parityTurnsWrong)

/-- 'backstaylaw21.TraceRight': WHATEVER THE INPUT: true; the input reads as it did. -/
def traceRightSpec : ChangeSpec := { name := "traceRight", fn := fun _ => fun
  | [d1, d2, d3, d4, d5] => { results := [.lit (.bool true)], args := [d1, d2, d3, d4, d5] }
  | _ => none }
def traceRightRow : OpenClaim := { program := "ytflnpiknckdmfaa", sum := "de1e8d3028f900d588eb3d5199ca70aa139728c56ab342e812c0848c709d1a62", func := "backstay/backstaylaw21.TraceRight", spec := "traceRight", unfollowed := true, recurses := true, apart := false }
def TraceRightSaid : Prop := traceRightRow.holds Try.pinned (OpenSpec.ofChange traceRightSpec)

/-- ITS FALSE NEIGHBOUR: 'it returns false'. Refute it at one input. -/
def traceRightWrong : ChangeSpec := { name := "traceRight", fn := fun _ => fun
  | [d1, d2, d3, d4, d5] => { results := [.lit (.bool false)], args := [d1, d2, d3, d4, d5] }
  | _ => none }
def TraceRightWrongFalsely : Prop := traceRightRow.holds Try.pinned (OpenSpec.ofChange traceRightWrong)

/-- 'backstaylaw21.TraceMixes': WHATEVER THE INPUT: true; the input reads as it did. -/
def traceMixesSpec : ChangeSpec := { name := "traceMixes", fn := fun _ => fun
  | [d1, d2, d3] => { results := [.lit (.bool true)], args := [d1, d2, d3] }
  | _ => none }
def traceMixesRow : OpenClaim := { program := "ytflnpiknckdmfaa", sum := "de1e8d3028f900d588eb3d5199ca70aa139728c56ab342e812c0848c709d1a62", func := "backstay/backstaylaw21.TraceMixes", spec := "traceMixes", unfollowed := true, recurses := true, apart := false }
def TraceMixesSaid : Prop := traceMixesRow.holds Try.pinned (OpenSpec.ofChange traceMixesSpec)

/-- ITS FALSE NEIGHBOUR: 'it returns false'. Refute it at one input. -/
def traceMixesWrong : ChangeSpec := { name := "traceMixes", fn := fun _ => fun
  | [d1, d2, d3] => { results := [.lit (.bool false)], args := [d1, d2, d3] }
  | _ => none }
def TraceMixesWrongFalsely : Prop := traceMixesRow.holds Try.pinned (OpenSpec.ofChange traceMixesWrong)

/-- 'backstaylaw21.TraceReads': WHATEVER THE INPUT: true; the input reads as it did. -/
def traceReadsSpec : ChangeSpec := { name := "traceReads", fn := fun _ => fun
  | [d1, d2, d3, d4, d5] => { results := [.lit (.bool true)], args := [d1, d2, d3, d4, d5] }
  | _ => none }
def traceReadsRow : OpenClaim := { program := "ytflnpiknckdmfaa", sum := "de1e8d3028f900d588eb3d5199ca70aa139728c56ab342e812c0848c709d1a62", func := "backstay/backstaylaw21.TraceReads", spec := "traceReads", unfollowed := true, recurses := true, apart := false }
def TraceReadsSaid : Prop := traceReadsRow.holds Try.pinned (OpenSpec.ofChange traceReadsSpec)

/-- ITS FALSE NEIGHBOUR: 'it returns false'. Refute it at one input. -/
def traceReadsWrong : ChangeSpec := { name := "traceReads", fn := fun _ => fun
  | [d1, d2, d3, d4, d5] => { results := [.lit (.bool false)], args := [d1, d2, d3, d4, d5] }
  | _ => none }
def TraceReadsWrongFalsely : Prop := traceReadsRow.holds Try.pinned (OpenSpec.ofChange traceReadsWrong)

/-- 'backstaylaw03.CoreRight': WHATEVER THE INPUT: true; the input reads as it did. -/
def coreRightSpec : ChangeSpec := { name := "coreRight", fn := fun _ => fun
  | [d1, d2, d3, d4] => { results := [.lit (.bool true)], args := [d1, d2, d3, d4] }
  | _ => none }
def coreRightRow : OpenClaim := { program := "ytflnpiknckdmfaa", sum := "de1e8d3028f900d588eb3d5199ca70aa139728c56ab342e812c0848c709d1a62", func := "backstay/backstaylaw03.CoreRight", spec := "coreRight", unfollowed := true, recurses := true, apart := false }
def CoreRightSaid : Prop := coreRightRow.holds Try.pinned (OpenSpec.ofChange coreRightSpec)

/-- ITS FALSE NEIGHBOUR: 'it returns false'. Refute it at one input. -/
def coreRightWrong : ChangeSpec := { name := "coreRight", fn := fun _ => fun
  | [d1, d2, d3, d4] => { results := [.lit (.bool false)], args := [d1, d2, d3, d4] }
  | _ => none }
def CoreRightWrongFalsely : Prop := coreRightRow.holds Try.pinned (OpenSpec.ofChange coreRightWrong)

/-- 'backstaylaw03.CoreOrder': WHATEVER THE INPUT: true; the input reads as it did. -/
def coreOrderSpec : ChangeSpec := { name := "coreOrder", fn := fun _ => fun
  | [d1, d2, d3, d4] => { results := [.lit (.bool true)], args := [d1, d2, d3, d4] }
  | _ => none }
def coreOrderRow : OpenClaim := { program := "ytflnpiknckdmfaa", sum := "de1e8d3028f900d588eb3d5199ca70aa139728c56ab342e812c0848c709d1a62", func := "backstay/backstaylaw03.CoreOrder", spec := "coreOrder", unfollowed := true, recurses := true, apart := false }
def CoreOrderSaid : Prop := coreOrderRow.holds Try.pinned (OpenSpec.ofChange coreOrderSpec)

/-- ITS FALSE NEIGHBOUR: 'it returns false'. Refute it at one input. -/
def coreOrderWrong : ChangeSpec := { name := "coreOrder", fn := fun _ => fun
  | [d1, d2, d3, d4] => { results := [.lit (.bool false)], args := [d1, d2, d3, d4] }
  | _ => none }
def CoreOrderWrongFalsely : Prop := coreOrderRow.holds Try.pinned (OpenSpec.ofChange coreOrderWrong)

/-- 'backstaylaw03.CoreAnswers': WHATEVER THE INPUT: true; the input reads as it did. -/
def coreAnswersSpec : ChangeSpec := { name := "coreAnswers", fn := fun _ => fun
  | [d1, d2, d3, d4, d5] => { results := [.lit (.bool true)], args := [d1, d2, d3, d4, d5] }
  | _ => none }
def coreAnswersRow : OpenClaim := { program := "ytflnpiknckdmfaa", sum := "de1e8d3028f900d588eb3d5199ca70aa139728c56ab342e812c0848c709d1a62", func := "backstay/backstaylaw03.CoreAnswers", spec := "coreAnswers", unfollowed := true, recurses := true, apart := false }
def CoreAnswersSaid : Prop := coreAnswersRow.holds Try.pinned (OpenSpec.ofChange coreAnswersSpec)

/-- ITS FALSE NEIGHBOUR: 'it returns false'. Refute it at one input. -/
def coreAnswersWrong : ChangeSpec := { name := "coreAnswers", fn := fun _ => fun
  | [d1, d2, d3, d4, d5] => { results := [.lit (.bool false)], args := [d1, d2, d3, d4, d5] }
  | _ => none }
def CoreAnswersWrongFalsely : Prop := coreAnswersRow.holds Try.pinned (OpenSpec.ofChange coreAnswersWrong)

/- THE SECOND FORM. 'bulk': how many values and letters a reading holds, each counted each time it is reached (what is shared counts as often as it is met; a slice's spare places count too). A statement '..UptoSaid' is the law's where the arguments, and the package variables that the reading takes, are together of bulk at most 1048576: NARROWER than '..Said'. Prove '..Said' where nothing that the law and all that it calls make is longer than what came in: it says more and counts as full. Else prove '..UptoSaid'. A law counts once. -/
mutual
def uptoBulk {H : Type} : DataW H → Nat
  | .lit (.string bytes) => bytes.length + 1
  | .lit _ => 1
  | .nil => 1
  | .ptr d => uptoBulk d + 1
  | .slice elems spare => uptoBulkAll elems + uptoBulkAll spare + 1
  | .agg parts => uptoBulkAll parts + 1
  | .iface _ d => uptoBulk d + 1
  | .map entries => uptoBulkEntries entries + 1
  | .held _ => 1
def uptoBulkAll {H : Type} : List (DataW H) → Nat
  | [] => 0
  | d :: r => uptoBulk d + uptoBulkAll r
def uptoBulkEntries {H : Type} : List (Lit × DataW H) → Nat
  | [] => 0
  | x :: r => uptoBulkEntry x + uptoBulkEntries r
def uptoBulkEntry {H : Type} : Lit × DataW H → Nat
  | (.string bytes, d) => bytes.length + uptoBulk d + 1
  | (_, d) => uptoBulk d + 1
 end
def uptoSmall : (H : Type) → List (DataW H) → Bool := fun _ ds => decide (uptoBulkAll ds ≤ 1048576)
def OpenSpec.upto (s : _root_.Go.ChangeSpec) : _root_.Go.OpenSpec := { _root_.Go.OpenSpec.ofChange s with cond := some uptoSmall }

/-- 'backstaylaw23.FairRight', WHERE WHAT IT READS IS OF BULK AT MOST 1048576: true; the input reads as it did. -/
def fairRightUptoRow : OpenClaim := { program := "ytflnpiknckdmfaa", sum := "de1e8d3028f900d588eb3d5199ca70aa139728c56ab342e812c0848c709d1a62", func := "backstay/backstaylaw23.FairRight", spec := "fairRight", apart := false, narrowed := true }
def FairRightUptoSaid : Prop := fairRightUptoRow.holds Try.pinned (OpenSpec.upto fairRightSpec)

/-- 'backstaylaw23.FairMade', WHERE WHAT IT READS IS OF BULK AT MOST 1048576: true; the input reads as it did. -/
def fairMadeUptoRow : OpenClaim := { program := "ytflnpiknckdmfaa", sum := "de1e8d3028f900d588eb3d5199ca70aa139728c56ab342e812c0848c709d1a62", func := "backstay/backstaylaw23.FairMade", spec := "fairMade", apart := false, narrowed := true }
def FairMadeUptoSaid : Prop := fairMadeUptoRow.holds Try.pinned (OpenSpec.upto fairMadeSpec)

/-- 'backstaylaw07.ParityRight', WHERE WHAT IT READS IS OF BULK AT MOST 1048576: true; the input reads as it did. -/
def parityRightUptoRow : OpenClaim := { program := "ytflnpiknckdmfaa", sum := "de1e8d3028f900d588eb3d5199ca70aa139728c56ab342e812c0848c709d1a62", func := "backstay/backstaylaw07.ParityRight", spec := "parityRight", unfollowed := true, recurses := true, apart := false, narrowed := true }
def ParityRightUptoSaid : Prop := parityRightUptoRow.holds Try.pinned (OpenSpec.upto parityRightSpec)

/-- 'backstaylaw07.ParityRebuilds', WHERE WHAT IT READS IS OF BULK AT MOST 1048576: true; the input reads as it did. -/
def parityRebuildsUptoRow : OpenClaim := { program := "ytflnpiknckdmfaa", sum := "de1e8d3028f900d588eb3d5199ca70aa139728c56ab342e812c0848c709d1a62", func := "backstay/backstaylaw07.ParityRebuilds", spec := "parityRebuilds", unfollowed := true, recurses := true, apart := false, narrowed := true }
def ParityRebuildsUptoSaid : Prop := parityRebuildsUptoRow.holds Try.pinned (OpenSpec.upto parityRebuildsSpec)

/-- 'backstaylaw07.ParityTurns', WHERE WHAT IT READS IS OF BULK AT MOST 1048576: true; the input reads as it did. -/
def parityTurnsUptoRow : OpenClaim := { program := "ytflnpiknckdmfaa", sum := "de1e8d3028f900d588eb3d5199ca70aa139728c56ab342e812c0848c709d1a62", func := "backstay/backstaylaw07.ParityTurns", spec := "parityTurns", unfollowed := true, recurses := true, apart := false, narrowed := true }
def ParityTurnsUptoSaid : Prop := parityTurnsUptoRow.holds Try.pinned (OpenSpec.upto parityTurnsSpec)

/-- 'backstaylaw21.TraceRight', WHERE WHAT IT READS IS OF BULK AT MOST 1048576: true; the input reads as it did. -/
def traceRightUptoRow : OpenClaim := { program := "ytflnpiknckdmfaa", sum := "de1e8d3028f900d588eb3d5199ca70aa139728c56ab342e812c0848c709d1a62", func := "backstay/backstaylaw21.TraceRight", spec := "traceRight", unfollowed := true, recurses := true, apart := false, narrowed := true }
def TraceRightUptoSaid : Prop := traceRightUptoRow.holds Try.pinned (OpenSpec.upto traceRightSpec)

/-- 'backstaylaw21.TraceMixes', WHERE WHAT IT READS IS OF BULK AT MOST 1048576: true; the input reads as it did. -/
def traceMixesUptoRow : OpenClaim := { program := "ytflnpiknckdmfaa", sum := "de1e8d3028f900d588eb3d5199ca70aa139728c56ab342e812c0848c709d1a62", func := "backstay/backstaylaw21.TraceMixes", spec := "traceMixes", unfollowed := true, recurses := true, apart := false, narrowed := true }
def TraceMixesUptoSaid : Prop := traceMixesUptoRow.holds Try.pinned (OpenSpec.upto traceMixesSpec)

/-- 'backstaylaw21.TraceReads', WHERE WHAT IT READS IS OF BULK AT MOST 1048576: true; the input reads as it did. -/
def traceReadsUptoRow : OpenClaim := { program := "ytflnpiknckdmfaa", sum := "de1e8d3028f900d588eb3d5199ca70aa139728c56ab342e812c0848c709d1a62", func := "backstay/backstaylaw21.TraceReads", spec := "traceReads", unfollowed := true, recurses := true, apart := false, narrowed := true }
def TraceReadsUptoSaid : Prop := traceReadsUptoRow.holds Try.pinned (OpenSpec.upto traceReadsSpec)

/-- 'backstaylaw03.CoreRight', WHERE WHAT IT READS IS OF BULK AT MOST 1048576: true; the input reads as it did. -/
def coreRightUptoRow : OpenClaim := { program := "ytflnpiknckdmfaa", sum := "de1e8d3028f900d588eb3d5199ca70aa139728c56ab342e812c0848c709d1a62", func := "backstay/backstaylaw03.CoreRight", spec := "coreRight", unfollowed := true, recurses := true, apart := false, narrowed := true }
def CoreRightUptoSaid : Prop := coreRightUptoRow.holds Try.pinned (OpenSpec.upto coreRightSpec)

/-- 'backstaylaw03.CoreOrder', WHERE WHAT IT READS IS OF BULK AT MOST 1048576: true; the input reads as it did. -/
def coreOrderUptoRow : OpenClaim := { program := "ytflnpiknckdmfaa", sum := "de1e8d3028f900d588eb3d5199ca70aa139728c56ab342e812c0848c709d1a62", func := "backstay/backstaylaw03.CoreOrder", spec := "coreOrder", unfollowed := true, recurses := true, apart := false, narrowed := true }
def CoreOrderUptoSaid : Prop := coreOrderUptoRow.holds Try.pinned (OpenSpec.upto coreOrderSpec)

/-- 'backstaylaw03.CoreAnswers', WHERE WHAT IT READS IS OF BULK AT MOST 1048576: true; the input reads as it did. -/
def coreAnswersUptoRow : OpenClaim := { program := "ytflnpiknckdmfaa", sum := "de1e8d3028f900d588eb3d5199ca70aa139728c56ab342e812c0848c709d1a62", func := "backstay/backstaylaw03.CoreAnswers", spec := "coreAnswers", unfollowed := true, recurses := true, apart := false, narrowed := true }
def CoreAnswersUptoSaid : Prop := coreAnswersUptoRow.holds Try.pinned (OpenSpec.upto coreAnswersSpec)

end Rows
end Go.Proofs.Ytflnpiknckdmfaa
