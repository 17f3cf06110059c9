/- 'ClockSure' tells true whatever comes in, and its arguments read as they did. No condition. -/
import Derived.Test.YtklkpogdghiagaaRows
import Derived.Test.YtklkpogdghiagaaP12c
namespace Go.Proofs.Ytklkpogdghiagaa
open Go.SX

theorem own : ownKnob Try.prog.godebug = none := by kernel_rfl
theorem laidOut : laidOutB Try.prog = true := by kernel_rfl

theorem clockSure_law : ∀ Ds, WtL (paramTys cx Try.f7) Ds → ∃ k d, callF cx k 12 noC d 7 Ds = some [.bool true] :=
  law_of k_l12_ClockSure (by kernel_rfl) fun x h => clockSure_ok x h

theorem clockSure_lifted (os : Os) (started : os.Started) (H : Type) (enc : TypeId × Value → H) :
    ReturnsInHanded {} Try.checked os 7 .any (Rows.clockSureSpec.pre6 enc Try.prog Try.f7 Rows.clockSureRow.domain false) (Rows.clockSureSpec.post enc Try.prog Try.f7 false true false false) :=
  lift_true (cx := cx) (C := Try.checked) rfl tyOk mixed noC_ok 12 own laidOut started (by kernel_rfl) Try.func7 (by kernel_rfl) (by kernel_rfl) (by kernel_rfl) (tb := 4) rfl Try.underlying4 rfl rfl
    (fun ds h => by
      have h : ds.length = 2 := h
      match ds, h with
      | [_, _], _ => rfl) clockSure_law
    (ChangeSpec.witness6 (enc := enc) (C := Try.checked) false ⟨#[], #[.int .u8 0, .slice none 0 0], []⟩ 8 (by kernel_rfl) (by kernel_rfl) (by kernel_rfl) (by kernel_rfl))

theorem clockSure_holds : Rows.ClockSureSaid :=
  OpenClaim.holds_of_wide 7 Try.f7 rfl rfl rfl rfl rfl rfl rfl ⟨rfl, rfl, rfl, rfl, rfl⟩ rfl rfl rfl rfl rfl (by kernel_rfl) Try.func7 (by kernel_rfl)
    (of_decide_eq_true (by kernel_rfl)) (by unfold Func.isWrapper; first | (rw [if_pos (by decide +kernel)]; kernel_rfl) | (rw [if_neg (by decide +kernel)]; exact ⟨rfl, rfl⟩))
    (fun os started H enc _ => clockSure_lifted os started H enc)

#print axioms clockSure_holds

end Go.Proofs.Ytklkpogdghiagaa
