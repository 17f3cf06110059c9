/-
  No cell of these rows narrows 'for every input' (looked for: loops, veiled, ifaces, maps, wideKeys, modest, calm, conditions, laid).
  DERIVED. THE GIVEN ROWS OF THIS SEAT. 7 by the template 'for every input the law returns true; each argument reads behind the call as it read before'; 0 by the template 'total and deterministic' (their statements: YtlgjbfdojbmmgaaTotals.lean).
  GIVEN WITH THE SEED: the statements are not yours to turn. If you find one false, say at which input.
  Laid BY PROGRAM, IN A SANDBOX (cutbox-rows.mjs): the forced cells as the released guide's own fill.sh prints them over the translation 0b295266caf9a76d… (all of the seat's roots in one cut). By AI agents, Wed Nov 11 2026. No macro, syntax, notation, axiom, sorry.
-/
import Derived.Test.YtlgjbfdojbmmgaaChecked
import GoSem.Claim
import GoSem.ClaimJoined
import GoSem.ClaimMapViews
import Derived.JoinedTies
import Derived.KernelRfl
namespace Go.Proofs.Ytlgjbfdojbmmgaa
/- THE CELL 'sum', in the pinned program and in every row, IS THE sha256 OF THE DUMP (.gsa) THAT YtlgjbfdojbmmgaaProg.lean LOADS. Nothing in Lean hashes anything: it is a label: what it is worth is what the hold of that sum in a sandbox is worth. -/
noncomputable def Try.pinned : Pinned := { name := "ytlgjbfdojbmmgaa", sum := "0b295266caf9a76dcf19e03b198225906fa875338cff7110d5c52c28cff0f2f2", checked := Try.checked }
namespace Rows
def none {H : Type} : Left H := { results := [], args := [] }

/-- 'backstaylaw14.StoreRight': WHATEVER THE INPUT: true; the input reads as it did. -/
def storeRightSpec : ChangeSpec := { name := "storeRight", fn := fun _ => fun
  | [d1, d2, d3, d4, d5, d6, d7] => { results := [.lit (.bool true)], args := [d1, d2, d3, d4, d5, d6, d7] }
  | _ => none }
def storeRightRow : OpenClaim := { program := "ytlgjbfdojbmmgaa", sum := "0b295266caf9a76dcf19e03b198225906fa875338cff7110d5c52c28cff0f2f2", func := "backstay/backstaylaw14.StoreRight", spec := "storeRight", unfollowed := true, recurses := true, plainKeys := false, apart := false }
def StoreRightSaid : Prop := storeRightRow.holds Try.pinned (OpenSpec.ofChange storeRightSpec)

/-- ITS FALSE NEIGHBOUR: 'it returns false'. Refute it at one input. -/
def storeRightWrong : ChangeSpec := { name := "storeRight", fn := fun _ => fun
  | [d1, d2, d3, d4, d5, d6, d7] => { results := [.lit (.bool false)], args := [d1, d2, d3, d4, d5, d6, d7] }
  | _ => none }
def StoreRightWrongFalsely : Prop := storeRightRow.holds Try.pinned (OpenSpec.ofChange storeRightWrong)

/-- 'backstaylaw14.StoreSurvives': WHATEVER THE INPUT: true; the input reads as it did. -/
def storeSurvivesSpec : ChangeSpec := { name := "storeSurvives", fn := fun _ => fun
  | [d1, d2, d3] => { results := [.lit (.bool true)], args := [d1, d2, d3] }
  | _ => none }
def storeSurvivesRow : OpenClaim := { program := "ytlgjbfdojbmmgaa", sum := "0b295266caf9a76dcf19e03b198225906fa875338cff7110d5c52c28cff0f2f2", func := "backstay/backstaylaw14.StoreSurvives", spec := "storeSurvives", unfollowed := true, recurses := true, plainKeys := false, apart := false }
def StoreSurvivesSaid : Prop := storeSurvivesRow.holds Try.pinned (OpenSpec.ofChange storeSurvivesSpec)

/-- ITS FALSE NEIGHBOUR: 'it returns false'. Refute it at one input. -/
def storeSurvivesWrong : ChangeSpec := { name := "storeSurvives", fn := fun _ => fun
  | [d1, d2, d3] => { results := [.lit (.bool false)], args := [d1, d2, d3] }
  | _ => none }
def StoreSurvivesWrongFalsely : Prop := storeSurvivesRow.holds Try.pinned (OpenSpec.ofChange storeSurvivesWrong)

/-- 'backstaylaw14.StoreLike': WHATEVER THE INPUT: true; the input reads as it did. -/
def storeLikeSpec : ChangeSpec := { name := "storeLike", fn := fun _ => fun
  | [d1, d2, d3] => { results := [.lit (.bool true)], args := [d1, d2, d3] }
  | _ => none }
def storeLikeRow : OpenClaim := { program := "ytlgjbfdojbmmgaa", sum := "0b295266caf9a76dcf19e03b198225906fa875338cff7110d5c52c28cff0f2f2", func := "backstay/backstaylaw14.StoreLike", spec := "storeLike", unfollowed := true, recurses := true, plainKeys := false, apart := false }
def StoreLikeSaid : Prop := storeLikeRow.holds Try.pinned (OpenSpec.ofChange storeLikeSpec)

/-- ITS FALSE NEIGHBOUR: 'it returns false'. Refute it at one input. -/
def storeLikeWrong : ChangeSpec := { name := "storeLike", fn := fun _ => fun
  | [d1, d2, d3] => { results := [.lit (.bool false)], args := [d1, d2, d3] }
  | _ => none }
def StoreLikeWrongFalsely : Prop := storeLikeRow.holds Try.pinned (OpenSpec.ofChange storeLikeWrong)

/-- 'backstaylaw10.ProtoOne': WHATEVER THE INPUT: true; the input reads as it did. -/
def protoOneSpec : ChangeSpec := { name := "protoOne", fn := fun _ => fun
  | [d1, d2, d3] => { results := [.lit (.bool true)], args := [d1, d2, d3] }
  | _ => none }
def protoOneRow : OpenClaim := { program := "ytlgjbfdojbmmgaa", sum := "0b295266caf9a76dcf19e03b198225906fa875338cff7110d5c52c28cff0f2f2", func := "backstay/backstaylaw10.ProtoOne", spec := "protoOne", unfollowed := true, recurses := true, plainKeys := false, apart := false }
def ProtoOneSaid : Prop := protoOneRow.holds Try.pinned (OpenSpec.ofChange protoOneSpec)

/-- ITS FALSE NEIGHBOUR: 'it returns false'. Refute it at one input. -/
def protoOneWrong : ChangeSpec := { name := "protoOne", fn := fun _ => fun
  | [d1, d2, d3] => { results := [.lit (.bool false)], args := [d1, d2, d3] }
  | _ => none }
def ProtoOneWrongFalsely : Prop := protoOneRow.holds Try.pinned (OpenSpec.ofChange protoOneWrong)

/-- 'backstaylaw10.ProtoComes': WHATEVER THE INPUT: true; the input reads as it did. -/
def protoComesSpec : ChangeSpec := { name := "protoComes", fn := fun _ => fun
  | [d1, d2, d3, d4, d5, d6] => { results := [.lit (.bool true)], args := [d1, d2, d3, d4, d5, d6] }
  | _ => none }
def protoComesRow : OpenClaim := { program := "ytlgjbfdojbmmgaa", sum := "0b295266caf9a76dcf19e03b198225906fa875338cff7110d5c52c28cff0f2f2", func := "backstay/backstaylaw10.ProtoComes", spec := "protoComes", unfollowed := true, recurses := true, plainKeys := false, apart := false }
def ProtoComesSaid : Prop := protoComesRow.holds Try.pinned (OpenSpec.ofChange protoComesSpec)

/-- ITS FALSE NEIGHBOUR: 'it returns false'. Refute it at one input. -/
def protoComesWrong : ChangeSpec := { name := "protoComes", fn := fun _ => fun
  | [d1, d2, d3, d4, d5, d6] => { results := [.lit (.bool false)], args := [d1, d2, d3, d4, d5, d6] }
  | _ => none }
def ProtoComesWrongFalsely : Prop := protoComesRow.holds Try.pinned (OpenSpec.ofChange protoComesWrong)

/-- 'backstaylaw10.ProtoHome': WHATEVER THE INPUT: true; the input reads as it did. -/
def protoHomeSpec : ChangeSpec := { name := "protoHome", fn := fun _ => fun
  | [d1, d2, d3, d4, d5] => { results := [.lit (.bool true)], args := [d1, d2, d3, d4, d5] }
  | _ => none }
def protoHomeRow : OpenClaim := { program := "ytlgjbfdojbmmgaa", sum := "0b295266caf9a76dcf19e03b198225906fa875338cff7110d5c52c28cff0f2f2", func := "backstay/backstaylaw10.ProtoHome", spec := "protoHome", unfollowed := true, recurses := true, plainKeys := false, apart := false }
def ProtoHomeSaid : Prop := protoHomeRow.holds Try.pinned (OpenSpec.ofChange protoHomeSpec)

/-- ITS FALSE NEIGHBOUR: 'it returns false'. Refute it at one input. -/
def protoHomeWrong : ChangeSpec := { name := "protoHome", fn := fun _ => fun
  | [d1, d2, d3, d4, d5] => { results := [.lit (.bool false)], args := [d1, d2, d3, d4, d5] }
  | _ => none }
def ProtoHomeWrongFalsely : Prop := protoHomeRow.holds Try.pinned (OpenSpec.ofChange protoHomeWrong)

/-- 'backstaylaw22.WatchHolds': WHATEVER THE INPUT: true; the input reads as it did. -/
def watchHoldsSpec : ChangeSpec := { name := "watchHolds", fn := fun _ => fun
  | [d1, d2, d3] => { results := [.lit (.bool true)], args := [d1, d2, d3] }
  | _ => none }
def watchHoldsRow : OpenClaim := { program := "ytlgjbfdojbmmgaa", sum := "0b295266caf9a76dcf19e03b198225906fa875338cff7110d5c52c28cff0f2f2", func := "backstay/backstaylaw22.WatchHolds", spec := "watchHolds", unfollowed := true, recurses := true, plainKeys := false, apart := false }
def WatchHoldsSaid : Prop := watchHoldsRow.holds Try.pinned (OpenSpec.ofChange watchHoldsSpec)

/-- ITS FALSE NEIGHBOUR: 'it returns false'. Refute it at one input. -/
def watchHoldsWrong : ChangeSpec := { name := "watchHolds", fn := fun _ => fun
  | [d1, d2, d3] => { results := [.lit (.bool false)], args := [d1, d2, d3] }
  | _ => none }
def WatchHoldsWrongFalsely : Prop := watchHoldsRow.holds Try.pinned (OpenSpec.ofChange watchHoldsWrong)

/- THE SECOND FORM. 'bulk': how many values and letters a reading holds, each counted each time it is reached (what is shared counts as often as it is met; a slice's spare places count too). A statement '..UptoSaid' is the law's where the arguments, and the package variables that the reading takes, are together of bulk at most 1048576: NARROWER than '..Said'. Prove '..Said' where nothing that the law and all that it calls make is longer than what came in: it says more and counts as full. Else prove '..UptoSaid'. A law counts once. -/
mutual
def uptoBulk {H : Type} : DataW H → Nat
  | .lit (.string bytes) => bytes.length + 1
  | .lit _ => 1
  | .nil => 1
  | .ptr d => uptoBulk d + 1
  | .slice elems spare => uptoBulkAll elems + uptoBulkAll spare + 1
  | .agg parts => uptoBulkAll parts + 1
  | .iface _ d => uptoBulk d + 1
  | .map entries => uptoBulkEntries entries + 1
  | .held _ => 1
def uptoBulkAll {H : Type} : List (DataW H) → Nat
  | [] => 0
  | d :: r => uptoBulk d + uptoBulkAll r
def uptoBulkEntries {H : Type} : List (Lit × DataW H) → Nat
  | [] => 0
  | x :: r => uptoBulkEntry x + uptoBulkEntries r
def uptoBulkEntry {H : Type} : Lit × DataW H → Nat
  | (.string bytes, d) => bytes.length + uptoBulk d + 1
  | (_, d) => uptoBulk d + 1
 end
def uptoSmall : (H : Type) → List (DataW H) → Bool := fun _ ds => decide (uptoBulkAll ds ≤ 1048576)
def OpenSpec.upto (s : _root_.Go.ChangeSpec) : _root_.Go.OpenSpec := { _root_.Go.OpenSpec.ofChange s with cond := some uptoSmall }

/-- 'backstaylaw14.StoreRight', WHERE WHAT IT READS IS OF BULK AT MOST 1048576: true; the input reads as it did. -/
def storeRightUptoRow : OpenClaim := { program := "ytlgjbfdojbmmgaa", sum := "0b295266caf9a76dcf19e03b198225906fa875338cff7110d5c52c28cff0f2f2", func := "backstay/backstaylaw14.StoreRight", spec := "storeRight", unfollowed := true, recurses := true, plainKeys := false, apart := false, narrowed := true }
def StoreRightUptoSaid : Prop := storeRightUptoRow.holds Try.pinned (OpenSpec.upto storeRightSpec)

/-- 'backstaylaw14.StoreSurvives', WHERE WHAT IT READS IS OF BULK AT MOST 1048576: true; the input reads as it did. -/
def storeSurvivesUptoRow : OpenClaim := { program := "ytlgjbfdojbmmgaa", sum := "0b295266caf9a76dcf19e03b198225906fa875338cff7110d5c52c28cff0f2f2", func := "backstay/backstaylaw14.StoreSurvives", spec := "storeSurvives", unfollowed := true, recurses := true, plainKeys := false, apart := false, narrowed := true }
def StoreSurvivesUptoSaid : Prop := storeSurvivesUptoRow.holds Try.pinned (OpenSpec.upto storeSurvivesSpec)

/-- 'backstaylaw14.StoreLike', WHERE WHAT IT READS IS OF BULK AT MOST 1048576: true; the input reads as it did. -/
def storeLikeUptoRow : OpenClaim := { program := "ytlgjbfdojbmmgaa", sum := "0b295266caf9a76dcf19e03b198225906fa875338cff7110d5c52c28cff0f2f2", func := "backstay/backstaylaw14.StoreLike", spec := "storeLike", unfollowed := true, recurses := true, plainKeys := false, apart := false, narrowed := true }
def StoreLikeUptoSaid : Prop := storeLikeUptoRow.holds Try.pinned (OpenSpec.upto storeLikeSpec)

/-- 'backstaylaw10.ProtoOne', WHERE WHAT IT READS IS OF BULK AT MOST 1048576: true; the input reads as it did. -/
def protoOneUptoRow : OpenClaim := { program := "ytlgjbfdojbmmgaa", sum := "0b295266caf9a76dcf19e03b198225906fa875338cff7110d5c52c28cff0f2f2", func := "backstay/backstaylaw10.ProtoOne", spec := "protoOne", unfollowed := true, recurses := true, plainKeys := false, apart := false, narrowed := true }
def ProtoOneUptoSaid : Prop := protoOneUptoRow.holds Try.pinned (OpenSpec.upto protoOneSpec)

/-- 'backstaylaw10.ProtoComes', WHERE WHAT IT READS IS OF BULK AT MOST 1048576: true; the input reads as it did. -/
def protoComesUptoRow : OpenClaim := { program := "ytlgjbfdojbmmgaa", sum := "0b295266caf9a76dcf19e03b198225906fa875338cff7110d5c52c28cff0f2f2", func := "backstay/backstaylaw10.ProtoComes", spec := "protoComes", unfollowed := true, recurses := true, plainKeys := false, apart := false, narrowed := true }
def ProtoComesUptoSaid : Prop := protoComesUptoRow.holds Try.pinned (OpenSpec.upto protoComesSpec)

/-- 'backstaylaw10.ProtoHome', WHERE WHAT IT READS IS OF BULK AT MOST 1048576: true; the input reads as it did. -/
def protoHomeUptoRow : OpenClaim := { program := "ytlgjbfdojbmmgaa", sum := "0b295266caf9a76dcf19e03b198225906fa875338cff7110d5c52c28cff0f2f2", func := "backstay/backstaylaw10.ProtoHome", spec := "protoHome", unfollowed := true, recurses := true, plainKeys := false, apart := false, narrowed := true }
def ProtoHomeUptoSaid : Prop := protoHomeUptoRow.holds Try.pinned (OpenSpec.upto protoHomeSpec)

/-- 'backstaylaw22.WatchHolds', WHERE WHAT IT READS IS OF BULK AT MOST 1048576: true; the input reads as it did. -/
def watchHoldsUptoRow : OpenClaim := { program := "ytlgjbfdojbmmgaa", sum := "0b295266caf9a76dcf19e03b198225906fa875338cff7110d5c52c28cff0f2f2", func := "backstay/backstaylaw22.WatchHolds", spec := "watchHolds", unfollowed := true, recurses := true, plainKeys := false, apart := false, narrowed := true }
def WatchHoldsUptoSaid : Prop := watchHoldsUptoRow.holds Try.pinned (OpenSpec.upto watchHoldsSpec)

end Rows
end Go.Proofs.Ytlgjbfdojbmmgaa
