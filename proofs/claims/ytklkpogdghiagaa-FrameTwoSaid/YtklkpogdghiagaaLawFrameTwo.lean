/- 'FrameTwo' tells true whatever comes in, and its arguments read as they did. No condition. -/
import Derived.Test.YtklkpogdghiagaaRows
import Derived.Test.YtklkpogdghiagaaP05g
namespace Go.Proofs.Ytklkpogdghiagaa
open Go.SX

theorem own : ownKnob Try.prog.godebug = none := by kernel_rfl
theorem laidOut : laidOutB Try.prog = true := by kernel_rfl

theorem frameTwo_law : ∀ Ds, WtL (paramTys cx Try.f11) Ds → ∃ k d, callF cx k 12 noC d 11 Ds = some [.bool true] :=
  law_of k_l05_FrameTwo (by kernel_rfl) fun x h => frameTwo_ok x h

theorem frameTwo_lifted (os : Os) (started : os.Started) (H : Type) (enc : TypeId × Value → H) :
    ReturnsInHanded {} Try.checked os 11 .any (Rows.frameTwoSpec.pre6 enc Try.prog Try.f11 Rows.frameTwoRow.domain false) (Rows.frameTwoSpec.post enc Try.prog Try.f11 false true false false) :=
  lift_true (cx := cx) (C := Try.checked) rfl tyOk mixed noC_ok 12 own laidOut started (by kernel_rfl) Try.func11 (by kernel_rfl) (by kernel_rfl) (by kernel_rfl) (tb := 4) rfl Try.underlying4 rfl rfl
    (fun ds h => by
      have h : ds.length = 4 := h
      match ds, h with
      | [_, _, _, _], _ => rfl) frameTwo_law
    (ChangeSpec.witness6 (enc := enc) (C := Try.checked) false ⟨#[], #[.agg #[.int .i64 0, .int .i64 0, .int .i64 0, .int .i64 0, .int .i64 0, .int .i64 0, .bool false, .int .u32 0, .int .u32 0], .agg #[.int .i64 0, .int .i64 0, .int .i64 0, .int .i64 0, .int .i64 0, .int .i64 0, .bool false, .int .u32 0, .int .u32 0], .int .u8 0, .int .u8 0], []⟩ 8 (by kernel_rfl) (by kernel_rfl) (by kernel_rfl) (by kernel_rfl))

theorem frameTwo_holds : Rows.FrameTwoSaid :=
  OpenClaim.holds_of_wide 11 Try.f11 rfl rfl rfl rfl rfl rfl rfl ⟨rfl, rfl, rfl, rfl, rfl⟩ rfl rfl rfl rfl rfl (by kernel_rfl) Try.func11 (by kernel_rfl)
    (of_decide_eq_true (by kernel_rfl)) (by unfold Func.isWrapper; first | (rw [if_pos (by decide +kernel)]; kernel_rfl) | (rw [if_neg (by decide +kernel)]; exact ⟨rfl, rfl⟩))
    (fun os started H enc _ => frameTwo_lifted os started H enc)

#print axioms frameTwo_holds

end Go.Proofs.Ytklkpogdghiagaa
