/- 'WordSums' tells true whatever comes in, and its arguments read as they did. No condition. -/
import Derived.Test.YtkgflipalefmfaaRows
import Derived.Test.YtkgflipalefmfaaWord
namespace Go.Proofs.Ytkgflipalefmfaa
open Go.SX

theorem own : ownKnob Try.prog.godebug = none := by kernel_rfl
theorem laidOut : laidOutB Try.prog = true := by kernel_rfl

theorem wordSums_law (Ds : List D) (h : WtL (paramTys cx Try.f6) Ds) : ∃ k d, callF cx k 12 noC d 6 Ds = some [.bool true] := by
  have h : WtL [.int .u32, .int .u32, .int .u32] Ds := h
  obtain ⟨d1, l1, rfl, h1, h⟩ := h.toCons
  obtain ⟨d2, l2, rfl, h2, h⟩ := h.toCons
  obtain ⟨d3, l3, rfl, h3, h⟩ := h.toCons
  obtain rfl := h.toNil
  obtain ⟨a, rfl, _⟩ := h1.toInt
  obtain ⟨b, rfl, _⟩ := h2.toInt
  obtain ⟨c, rfl, _⟩ := h3.toInt
  exact (callL_some cx 12 noC).1 (sums a b c)

theorem wordSums_lifted (os : Os) (started : os.Started) (H : Type) (enc : TypeId × Value → H) :
    ReturnsInHanded {} Try.checked os 6 .any (Rows.wordSumsSpec.pre6 enc Try.prog Try.f6 Rows.wordSumsRow.domain false) (Rows.wordSumsSpec.post enc Try.prog Try.f6 false true false false) :=
  lift_true (cx := cx) (C := Try.checked) rfl tyOk mixed noC_ok 12 own laidOut started (by kernel_rfl) Try.func6 (by kernel_rfl) (by kernel_rfl) (by kernel_rfl) (tb := 4) rfl Try.underlying4 rfl rfl
    (fun ds h => by
      have h : ds.length = 3 := h
      match ds, h with
      | [_, _, _], _ => rfl) wordSums_law
    (ChangeSpec.witness6 (enc := enc) (C := Try.checked) false ⟨#[], #[.int .u32 0, .int .u32 0, .int .u32 0], []⟩ 8 (by kernel_rfl) (by kernel_rfl) (by kernel_rfl) (by kernel_rfl))

theorem wordSums_holds : Rows.WordSumsSaid :=
  OpenClaim.holds_of_wide 6 Try.f6 rfl rfl rfl rfl rfl rfl rfl ⟨rfl, rfl, rfl, rfl, rfl⟩ rfl rfl rfl rfl rfl (by kernel_rfl) Try.func6 (by kernel_rfl)
    (of_decide_eq_true (by kernel_rfl)) (by unfold Func.isWrapper; first | (rw [if_pos (by decide +kernel)]; kernel_rfl) | (rw [if_neg (by decide +kernel)]; exact ⟨rfl, rfl⟩))
    (fun os started H enc _ => wordSums_lifted os started H enc)

#print axioms wordSums_holds
end Go.Proofs.Ytkgflipalefmfaa
