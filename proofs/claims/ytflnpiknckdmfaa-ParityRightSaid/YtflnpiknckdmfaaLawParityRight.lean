/- 'ParityRight' tells true whatever comes in, and its arguments read as they did. No condition. -/
import Derived.Test.YtflnpiknckdmfaaRows
import Derived.Test.YtflnpiknckdmfaaP07d
namespace Go.Proofs.Ytflnpiknckdmfaa
open Go.SX

theorem own : ownKnob Try.prog.godebug = none := by kernel_rfl
theorem laidOut : laidOutB Try.prog = true := by kernel_rfl

theorem parityRight_law : ∀ Ds, WtL (paramTys cx Try.f5) Ds → ∃ k d, callF cx k 12 noC d 5 Ds = some [.bool true] :=
  law_of k_l07_ParityRight (by kernel_rfl) fun x h => parityRight_ok x h

theorem parityRight_lifted (os : Os) (started : os.Started) (H : Type) (enc : TypeId × Value → H) :
    ReturnsInHanded {} Try.checked os 5 .any (Rows.parityRightSpec.pre6 enc Try.prog Try.f5 Rows.parityRightRow.domain false) (Rows.parityRightSpec.post enc Try.prog Try.f5 false true false false) :=
  lift_true (cx := cx) (C := Try.checked) rfl tyOk mixed noC_ok 12 own laidOut started (by kernel_rfl) Try.func5 (by kernel_rfl) (by kernel_rfl) (by kernel_rfl) (tb := 4) rfl Try.underlying4 rfl rfl
    (fun ds h => by
      have h : ds.length = 6 := h
      match ds, h with
      | [_, _, _, _, _, _], _ => rfl) parityRight_law
    (ChangeSpec.witness6 (enc := enc) (C := Try.checked) false ⟨#[], #[.agg #[.slice none 0 0, .slice none 0 0, .int .i64 0], .int .i64 0, .int .i64 0, .int .u32 0, .int .i64 0, .int .i64 0], []⟩ 8 (by kernel_rfl) (by kernel_rfl) (by kernel_rfl) (by kernel_rfl))

theorem parityRight_holds : Rows.ParityRightSaid :=
  OpenClaim.holds_of_wide 5 Try.f5 rfl rfl rfl rfl rfl rfl rfl ⟨rfl, rfl, rfl, rfl, rfl⟩ rfl rfl rfl rfl rfl (by kernel_rfl) Try.func5 (by kernel_rfl)
    (of_decide_eq_true (by kernel_rfl)) (by unfold Func.isWrapper; first | (rw [if_pos (by decide +kernel)]; kernel_rfl) | (rw [if_neg (by decide +kernel)]; exact ⟨rfl, rfl⟩))
    (fun os started H enc _ => parityRight_lifted os started H enc)

#print axioms parityRight_holds

end Go.Proofs.Ytflnpiknckdmfaa
