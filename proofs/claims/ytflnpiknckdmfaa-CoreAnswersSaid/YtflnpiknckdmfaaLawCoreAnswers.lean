/- 'CoreAnswers' tells true whatever comes in, and its arguments read as they did. No condition. -/
import Derived.Test.YtflnpiknckdmfaaRows
import Derived.Test.YtflnpiknckdmfaaP03b
namespace Go.Proofs.Ytflnpiknckdmfaa
open Go.SX

theorem own : ownKnob Try.prog.godebug = none := by kernel_rfl
theorem laidOut : laidOutB Try.prog = true := by kernel_rfl

theorem coreAnswers_law : ∀ Ds, WtL (paramTys cx Try.f13) Ds → ∃ k d, callF cx k 12 noC d 13 Ds = some [.bool true] :=
  law_of k_l03_CoreAnswers (by kernel_rfl) fun x h => coreAnswers_ok x h

theorem coreAnswers_lifted (os : Os) (started : os.Started) (H : Type) (enc : TypeId × Value → H) :
    ReturnsInHanded {} Try.checked os 13 .any (Rows.coreAnswersSpec.pre6 enc Try.prog Try.f13 Rows.coreAnswersRow.domain false) (Rows.coreAnswersSpec.post enc Try.prog Try.f13 false true false false) :=
  lift_true (cx := cx) (C := Try.checked) rfl tyOk mixed noC_ok 12 own laidOut started (by kernel_rfl) Try.func13 (by kernel_rfl) (by kernel_rfl) (by kernel_rfl) (tb := 4) rfl Try.underlying4 rfl rfl
    (fun ds h => by
      have h : ds.length = 5 := h
      match ds, h with
      | [_, _, _, _, _], _ => rfl) coreAnswers_law
    (ChangeSpec.witness6 (enc := enc) (C := Try.checked) false ⟨#[], #[.slice none 0 0, .agg #[.int .u32 0, .int .u32 0, .int .u32 0, .int .u32 0, .int .u32 0, .int .u32 0, .int .u32 0, .int .u32 0, .int .i64 0, .bool false], .int .u32 0, .int .u32 0, .int .u8 0], []⟩ 8 (by kernel_rfl) (by kernel_rfl) (by kernel_rfl) (by kernel_rfl))

theorem coreAnswers_holds : Rows.CoreAnswersSaid :=
  OpenClaim.holds_of_wide 13 Try.f13 rfl rfl rfl rfl rfl rfl rfl ⟨rfl, rfl, rfl, rfl, rfl⟩ rfl rfl rfl rfl rfl (by kernel_rfl) Try.func13 (by kernel_rfl)
    (of_decide_eq_true (by kernel_rfl)) (by unfold Func.isWrapper; first | (rw [if_pos (by decide +kernel)]; kernel_rfl) | (rw [if_neg (by decide +kernel)]; exact ⟨rfl, rfl⟩))
    (fun os started H enc _ => coreAnswers_lifted os started H enc)

#print axioms coreAnswers_holds

end Go.Proofs.Ytflnpiknckdmfaa
