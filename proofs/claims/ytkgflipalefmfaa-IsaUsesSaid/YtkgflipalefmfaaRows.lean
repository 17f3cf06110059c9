/-
  No cell of these rows narrows 'for every input' (looked for: loops, veiled, ifaces, maps, wideKeys, modest, calm, conditions, laid).
  DERIVED. THE GIVEN ROWS OF THIS SEAT. 7 by the template 'for every input the law returns true; each argument reads behind the call as it read before'; 0 by the template 'total and deterministic' (their statements: YtkgflipalefmfaaTotals.lean).
  GIVEN WITH THE SEED: the statements are not yours to turn. If you find one false, say at which input.
  Laid BY PROGRAM, IN A SANDBOX (cutbox-rows.mjs): the forced cells as the released guide's own fill.sh prints them over the translation 5424a6b3c76fdba5… (all of the seat's roots in one cut). By AI agents, Wed Nov 11 2026. No macro, syntax, notation, axiom, sorry.
-/
import Derived.Test.YtkgflipalefmfaaChecked
import GoSem.Claim
import GoSem.ClaimJoined
import GoSem.ClaimMapViews
import Derived.JoinedTies
import Derived.KernelRfl
namespace Go.Proofs.Ytkgflipalefmfaa
/- THE CELL 'sum', in the pinned program and in every row, IS THE sha256 OF THE DUMP (.gsa) THAT YtkgflipalefmfaaProg.lean LOADS. Nothing in Lean hashes anything: it is a label: what it is worth is what the hold of that sum in a sandbox is worth. -/
noncomputable def Try.pinned : Pinned := { name := "ytkgflipalefmfaa", sum := "5424a6b3c76fdba527b597c15b9eca787d8d507fc1a97b9c5b37097ec239f9c6", checked := Try.checked }
namespace Rows
def none {H : Type} : Left H := { results := [], args := [] }

/-- 'backstaylaw01.WordRight': WHATEVER THE INPUT: true; the input reads as it did. -/
def wordRightSpec : ChangeSpec := { name := "wordRight", fn := fun _ => fun
  | [d1, d2, d3, d4, d5] => { results := [.lit (.bool true)], args := [d1, d2, d3, d4, d5] }
  | _ => none }
def wordRightRow : OpenClaim := { program := "ytkgflipalefmfaa", sum := "5424a6b3c76fdba527b597c15b9eca787d8d507fc1a97b9c5b37097ec239f9c6", func := "backstay/backstaylaw01.WordRight", spec := "wordRight", apart := false }
def WordRightSaid : Prop := wordRightRow.holds Try.pinned (OpenSpec.ofChange wordRightSpec)

/-- ITS FALSE NEIGHBOUR: 'it returns false'. Refute it at one input. -/
def wordRightWrong : ChangeSpec := { name := "wordRight", fn := fun _ => fun
  | [d1, d2, d3, d4, d5] => { results := [.lit (.bool false)], args := [d1, d2, d3, d4, d5] }
  | _ => none }
def WordRightWrongFalsely : Prop := wordRightRow.holds Try.pinned (OpenSpec.ofChange wordRightWrong)

/-- 'backstaylaw01.WordRound': WHATEVER THE INPUT: true; the input reads as it did. -/
def wordRoundSpec : ChangeSpec := { name := "wordRound", fn := fun _ => fun
  | [d1, d2] => { results := [.lit (.bool true)], args := [d1, d2] }
  | _ => none }
def wordRoundRow : OpenClaim := { program := "ytkgflipalefmfaa", sum := "5424a6b3c76fdba527b597c15b9eca787d8d507fc1a97b9c5b37097ec239f9c6", func := "backstay/backstaylaw01.WordRound", spec := "wordRound", apart := false }
def WordRoundSaid : Prop := wordRoundRow.holds Try.pinned (OpenSpec.ofChange wordRoundSpec)

/-- ITS FALSE NEIGHBOUR: 'it returns false'. Refute it at one input. -/
def wordRoundWrong : ChangeSpec := { name := "wordRound", fn := fun _ => fun
  | [d1, d2] => { results := [.lit (.bool false)], args := [d1, d2] }
  | _ => none }
def WordRoundWrongFalsely : Prop := wordRoundRow.holds Try.pinned (OpenSpec.ofChange wordRoundWrong)

/-- 'backstaylaw01.WordPlace': WHATEVER THE INPUT: true; the input reads as it did. -/
def wordPlaceSpec : ChangeSpec := { name := "wordPlace", fn := fun _ => fun
  | [d1, d2] => { results := [.lit (.bool true)], args := [d1, d2] }
  | _ => none }
def wordPlaceRow : OpenClaim := { program := "ytkgflipalefmfaa", sum := "5424a6b3c76fdba527b597c15b9eca787d8d507fc1a97b9c5b37097ec239f9c6", func := "backstay/backstaylaw01.WordPlace", spec := "wordPlace", apart := false }
def WordPlaceSaid : Prop := wordPlaceRow.holds Try.pinned (OpenSpec.ofChange wordPlaceSpec)

/-- ITS FALSE NEIGHBOUR: 'it returns false'. Refute it at one input. -/
def wordPlaceWrong : ChangeSpec := { name := "wordPlace", fn := fun _ => fun
  | [d1, d2] => { results := [.lit (.bool false)], args := [d1, d2] }
  | _ => none }
def WordPlaceWrongFalsely : Prop := wordPlaceRow.holds Try.pinned (OpenSpec.ofChange wordPlaceWrong)

/-- 'backstaylaw01.WordSums': WHATEVER THE INPUT: true; the input reads as it did. -/
def wordSumsSpec : ChangeSpec := { name := "wordSums", fn := fun _ => fun
  | [d1, d2, d3] => { results := [.lit (.bool true)], args := [d1, d2, d3] }
  | _ => none }
def wordSumsRow : OpenClaim := { program := "ytkgflipalefmfaa", sum := "5424a6b3c76fdba527b597c15b9eca787d8d507fc1a97b9c5b37097ec239f9c6", func := "backstay/backstaylaw01.WordSums", spec := "wordSums", apart := false }
def WordSumsSaid : Prop := wordSumsRow.holds Try.pinned (OpenSpec.ofChange wordSumsSpec)

/-- ITS FALSE NEIGHBOUR: 'it returns false'. Refute it at one input. -/
def wordSumsWrong : ChangeSpec := { name := "wordSums", fn := fun _ => fun
  | [d1, d2, d3] => { results := [.lit (.bool false)], args := [d1, d2, d3] }
  | _ => none }
def WordSumsWrongFalsely : Prop := wordSumsRow.holds Try.pinned (OpenSpec.ofChange wordSumsWrong)

/-- 'backstaylaw02.IsaRight': WHATEVER THE INPUT: true; the input reads as it did. -/
def isaRightSpec : ChangeSpec := { name := "isaRight", fn := fun _ => fun
  | [d1, d2, d3] => { results := [.lit (.bool true)], args := [d1, d2, d3] }
  | _ => none }
def isaRightRow : OpenClaim := { program := "ytkgflipalefmfaa", sum := "5424a6b3c76fdba527b597c15b9eca787d8d507fc1a97b9c5b37097ec239f9c6", func := "backstay/backstaylaw02.IsaRight", spec := "isaRight", unfollowed := true, recurses := true, apart := false }
def IsaRightSaid : Prop := isaRightRow.holds Try.pinned (OpenSpec.ofChange isaRightSpec)

/-- ITS FALSE NEIGHBOUR: 'it returns false'. Refute it at one input. -/
def isaRightWrong : ChangeSpec := { name := "isaRight", fn := fun _ => fun
  | [d1, d2, d3] => { results := [.lit (.bool false)], args := [d1, d2, d3] }
  | _ => none }
def IsaRightWrongFalsely : Prop := isaRightRow.holds Try.pinned (OpenSpec.ofChange isaRightWrong)

/-- 'backstaylaw02.IsaUses': WHATEVER THE INPUT: true; the input reads as it did. -/
def isaUsesSpec : ChangeSpec := { name := "isaUses", fn := fun _ => fun
  | [d1, d2, d3, d4, d5, d6] => { results := [.lit (.bool true)], args := [d1, d2, d3, d4, d5, d6] }
  | _ => none }
def isaUsesRow : OpenClaim := { program := "ytkgflipalefmfaa", sum := "5424a6b3c76fdba527b597c15b9eca787d8d507fc1a97b9c5b37097ec239f9c6", func := "backstay/backstaylaw02.IsaUses", spec := "isaUses", unfollowed := true, recurses := true, apart := false }
def IsaUsesSaid : Prop := isaUsesRow.holds Try.pinned (OpenSpec.ofChange isaUsesSpec)

/-- ITS FALSE NEIGHBOUR: 'it returns false'. Refute it at one input. -/
def isaUsesWrong : ChangeSpec := { name := "isaUses", fn := fun _ => fun
  | [d1, d2, d3, d4, d5, d6] => { results := [.lit (.bool false)], args := [d1, d2, d3, d4, d5, d6] }
  | _ => none }
def IsaUsesWrongFalsely : Prop := isaUsesRow.holds Try.pinned (OpenSpec.ofChange isaUsesWrong)

/-- 'backstaylaw02.IsaStays': WHATEVER THE INPUT: true; the input reads as it did. -/
def isaStaysSpec : ChangeSpec := { name := "isaStays", fn := fun _ => fun
  | [d] => { results := [.lit (.bool true)], args := [d] }
  | _ => none }
def isaStaysRow : OpenClaim := { program := "ytkgflipalefmfaa", sum := "5424a6b3c76fdba527b597c15b9eca787d8d507fc1a97b9c5b37097ec239f9c6", func := "backstay/backstaylaw02.IsaStays", spec := "isaStays", unfollowed := true, recurses := true, apart := false }
def IsaStaysSaid : Prop := isaStaysRow.holds Try.pinned (OpenSpec.ofChange isaStaysSpec)

/-- ITS FALSE NEIGHBOUR: 'it returns false'. Refute it at one input. -/
def isaStaysWrong : ChangeSpec := { name := "isaStays", fn := fun _ => fun
  | [d] => { results := [.lit (.bool false)], args := [d] }
  | _ => none }
def IsaStaysWrongFalsely : Prop := isaStaysRow.holds Try.pinned (OpenSpec.ofChange isaStaysWrong)

/- THE SECOND FORM. 'bulk': how many values and letters a reading holds, each counted each time it is reached (what is shared counts as often as it is met; a slice's spare places count too). A statement '..UptoSaid' is the law's where the arguments, and the package variables that the reading takes, are together of bulk at most 1048576: NARROWER than '..Said'. Prove '..Said' where nothing that the law and all that it calls make is longer than what came in: it says more and counts as full. Else prove '..UptoSaid'. A law counts once. -/
mutual
def uptoBulk {H : Type} : DataW H → Nat
  | .lit (.string bytes) => bytes.length + 1
  | .lit _ => 1
  | .nil => 1
  | .ptr d => uptoBulk d + 1
  | .slice elems spare => uptoBulkAll elems + uptoBulkAll spare + 1
  | .agg parts => uptoBulkAll parts + 1
  | .iface _ d => uptoBulk d + 1
  | .map entries => uptoBulkEntries entries + 1
  | .held _ => 1
def uptoBulkAll {H : Type} : List (DataW H) → Nat
  | [] => 0
  | d :: r => uptoBulk d + uptoBulkAll r
def uptoBulkEntries {H : Type} : List (Lit × DataW H) → Nat
  | [] => 0
  | x :: r => uptoBulkEntry x + uptoBulkEntries r
def uptoBulkEntry {H : Type} : Lit × DataW H → Nat
  | (.string bytes, d) => bytes.length + uptoBulk d + 1
  | (_, d) => uptoBulk d + 1
 end
def uptoSmall : (H : Type) → List (DataW H) → Bool := fun _ ds => decide (uptoBulkAll ds ≤ 1048576)
def OpenSpec.upto (s : _root_.Go.ChangeSpec) : _root_.Go.OpenSpec := { _root_.Go.OpenSpec.ofChange s with cond := some uptoSmall }

/-- 'backstaylaw01.WordRight', WHERE WHAT IT READS IS OF BULK AT MOST 1048576: true; the input reads as it did. -/
def wordRightUptoRow : OpenClaim := { program := "ytkgflipalefmfaa", sum := "5424a6b3c76fdba527b597c15b9eca787d8d507fc1a97b9c5b37097ec239f9c6", func := "backstay/backstaylaw01.WordRight", spec := "wordRight", apart := false, narrowed := true }
def WordRightUptoSaid : Prop := wordRightUptoRow.holds Try.pinned (OpenSpec.upto wordRightSpec)

/-- 'backstaylaw01.WordRound', WHERE WHAT IT READS IS OF BULK AT MOST 1048576: true; the input reads as it did. -/
def wordRoundUptoRow : OpenClaim := { program := "ytkgflipalefmfaa", sum := "5424a6b3c76fdba527b597c15b9eca787d8d507fc1a97b9c5b37097ec239f9c6", func := "backstay/backstaylaw01.WordRound", spec := "wordRound", apart := false, narrowed := true }
def WordRoundUptoSaid : Prop := wordRoundUptoRow.holds Try.pinned (OpenSpec.upto wordRoundSpec)

/-- 'backstaylaw01.WordPlace', WHERE WHAT IT READS IS OF BULK AT MOST 1048576: true; the input reads as it did. -/
def wordPlaceUptoRow : OpenClaim := { program := "ytkgflipalefmfaa", sum := "5424a6b3c76fdba527b597c15b9eca787d8d507fc1a97b9c5b37097ec239f9c6", func := "backstay/backstaylaw01.WordPlace", spec := "wordPlace", apart := false, narrowed := true }
def WordPlaceUptoSaid : Prop := wordPlaceUptoRow.holds Try.pinned (OpenSpec.upto wordPlaceSpec)

/-- 'backstaylaw01.WordSums', WHERE WHAT IT READS IS OF BULK AT MOST 1048576: true; the input reads as it did. -/
def wordSumsUptoRow : OpenClaim := { program := "ytkgflipalefmfaa", sum := "5424a6b3c76fdba527b597c15b9eca787d8d507fc1a97b9c5b37097ec239f9c6", func := "backstay/backstaylaw01.WordSums", spec := "wordSums", apart := false, narrowed := true }
def WordSumsUptoSaid : Prop := wordSumsUptoRow.holds Try.pinned (OpenSpec.upto wordSumsSpec)

/-- 'backstaylaw02.IsaRight', WHERE WHAT IT READS IS OF BULK AT MOST 1048576: true; the input reads as it did. -/
def isaRightUptoRow : OpenClaim := { program := "ytkgflipalefmfaa", sum := "5424a6b3c76fdba527b597c15b9eca787d8d507fc1a97b9c5b37097ec239f9c6", func := "backstay/backstaylaw02.IsaRight", spec := "isaRight", unfollowed := true, recurses := true, apart := false, narrowed := true }
def IsaRightUptoSaid : Prop := isaRightUptoRow.holds Try.pinned (OpenSpec.upto isaRightSpec)

/-- 'backstaylaw02.IsaUses', WHERE WHAT IT READS IS OF BULK AT MOST 1048576: true; the input reads as it did. -/
def isaUsesUptoRow : OpenClaim := { program := "ytkgflipalefmfaa", sum := "5424a6b3c76fdba527b597c15b9eca787d8d507fc1a97b9c5b37097ec239f9c6", func := "backstay/backstaylaw02.IsaUses", spec := "isaUses", unfollowed := true, recurses := true, apart := false, narrowed := true }
def IsaUsesUptoSaid : Prop := isaUsesUptoRow.holds Try.pinned (OpenSpec.upto isaUsesSpec)

/-- 'backstaylaw02.IsaStays', WHERE WHAT IT READS IS OF BULK AT MOST 1048576: true; the input reads as it did. -/
def isaStaysUptoRow : OpenClaim := { program := "ytkgflipalefmfaa", sum := "5424a6b3c76fdba527b597c15b9eca787d8d507fc1a97b9c5b37097ec239f9c6", func := "backstay/backstaylaw02.IsaStays", spec := "isaStays", unfollowed := true, recurses := true, apart := false, narrowed := true }
def IsaStaysUptoSaid : Prop := isaStaysUptoRow.holds Try.pinned (OpenSpec.upto isaStaysSpec)

end Rows
end Go.Proofs.Ytkgflipalefmfaa
