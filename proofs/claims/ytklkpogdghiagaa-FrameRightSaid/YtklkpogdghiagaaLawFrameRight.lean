/- 'FrameRight' tells true whatever comes in, and its arguments read as they did. No condition. -/
import Derived.Test.YtklkpogdghiagaaRows
import Derived.Test.YtklkpogdghiagaaP05e
namespace Go.Proofs.Ytklkpogdghiagaa
open Go.SX

theorem own : ownKnob Try.prog.godebug = none := by kernel_rfl
theorem laidOut : laidOutB Try.prog = true := by kernel_rfl

theorem frameRight_law : ∀ Ds, WtL (paramTys cx Try.f9) Ds → ∃ k d, callF cx k 12 noC d 9 Ds = some [.bool true] :=
  law_of k_l05_FrameRight (by kernel_rfl) fun x h => frameRight_ok x h

theorem frameRight_lifted (os : Os) (started : os.Started) (H : Type) (enc : TypeId × Value → H) :
    ReturnsInHanded {} Try.checked os 9 .any (Rows.frameRightSpec.pre6 enc Try.prog Try.f9 Rows.frameRightRow.domain false) (Rows.frameRightSpec.post enc Try.prog Try.f9 false true false false) :=
  lift_true (cx := cx) (C := Try.checked) rfl tyOk mixed noC_ok 12 own laidOut started (by kernel_rfl) Try.func9 (by kernel_rfl) (by kernel_rfl) (by kernel_rfl) (tb := 4) rfl Try.underlying4 rfl rfl
    (fun ds h => by
      have h : ds.length = 2 := h
      match ds, h with
      | [_, _], _ => rfl) frameRight_law
    (ChangeSpec.witness6 (enc := enc) (C := Try.checked) false ⟨#[], #[.agg #[.int .i64 0, .int .i64 0, .int .i64 0, .int .i64 0, .int .i64 0, .int .i64 0, .bool false, .int .u32 0, .int .u32 0], .slice none 0 0], []⟩ 8 (by kernel_rfl) (by kernel_rfl) (by kernel_rfl) (by kernel_rfl))

theorem frameRight_holds : Rows.FrameRightSaid :=
  OpenClaim.holds_of_wide 9 Try.f9 rfl rfl rfl rfl rfl rfl rfl ⟨rfl, rfl, rfl, rfl, rfl⟩ rfl rfl rfl rfl rfl (by kernel_rfl) Try.func9 (by kernel_rfl)
    (of_decide_eq_true (by kernel_rfl)) (by unfold Func.isWrapper; first | (rw [if_pos (by decide +kernel)]; kernel_rfl) | (rw [if_neg (by decide +kernel)]; exact ⟨rfl, rfl⟩))
    (fun os started H enc _ => frameRight_lifted os started H enc)

#print axioms frameRight_holds

end Go.Proofs.Ytklkpogdghiagaa
