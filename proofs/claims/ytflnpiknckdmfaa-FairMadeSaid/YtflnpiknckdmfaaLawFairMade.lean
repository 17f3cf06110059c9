/- 'FairMade' tells true whatever comes in, and its arguments read as they did. No condition. -/
import Derived.Test.YtflnpiknckdmfaaRows
import Derived.Test.YtflnpiknckdmfaaP23d
namespace Go.Proofs.Ytflnpiknckdmfaa
open Go.SX

theorem own : ownKnob Try.prog.godebug = none := by kernel_rfl
theorem laidOut : laidOutB Try.prog = true := by kernel_rfl

theorem fairMade_law : ∀ Ds, WtL (paramTys cx Try.f4) Ds → ∃ k d, callF cx k 12 noC d 4 Ds = some [.bool true] :=
  law_of k_l23_FairMade (by kernel_rfl) fun x h => fairMade_ok x h

theorem fairMade_lifted (os : Os) (started : os.Started) (H : Type) (enc : TypeId × Value → H) :
    ReturnsInHanded {} Try.checked os 4 .any (Rows.fairMadeSpec.pre6 enc Try.prog Try.f4 Rows.fairMadeRow.domain false) (Rows.fairMadeSpec.post enc Try.prog Try.f4 false true false false) :=
  lift_true (cx := cx) (C := Try.checked) rfl tyOk mixed noC_ok 12 own laidOut started (by kernel_rfl) Try.func4 (by kernel_rfl) (by kernel_rfl) (by kernel_rfl) (tb := 4) rfl Try.underlying4 rfl rfl
    (fun ds h => by
      have h : ds.length = 7 := h
      match ds, h with
      | [_, _, _, _, _, _, _], _ => rfl) fairMade_law
    (ChangeSpec.witness6 (enc := enc) (C := Try.checked) false ⟨#[], #[.slice none 0 0, .int .u8 0, .int .u8 0, .int .u8 0, .int .u8 0, .int .u8 0, .int .u8 0], []⟩ 8 (by kernel_rfl) (by kernel_rfl) (by kernel_rfl) (by kernel_rfl))

theorem fairMade_holds : Rows.FairMadeSaid :=
  OpenClaim.holds_of_wide 4 Try.f4 rfl rfl rfl rfl rfl rfl rfl ⟨rfl, rfl, rfl, rfl, rfl⟩ rfl rfl rfl rfl rfl (by kernel_rfl) Try.func4 (by kernel_rfl)
    (of_decide_eq_true (by kernel_rfl)) (by unfold Func.isWrapper; first | (rw [if_pos (by decide +kernel)]; kernel_rfl) | (rw [if_neg (by decide +kernel)]; exact ⟨rfl, rfl⟩))
    (fun os started H enc _ => fairMade_lifted os started H enc)

#print axioms fairMade_holds

end Go.Proofs.Ytflnpiknckdmfaa
