/- 'IsaUses' tells true whatever comes in, and its arguments read as they did. No condition. -/
import Derived.Test.YtkgflipalefmfaaRows
import Derived.Test.YtkgflipalefmfaaP02U
namespace Go.Proofs.Ytkgflipalefmfaa
open Go.SX

theorem own : ownKnob Try.prog.godebug = none := by kernel_rfl
theorem laidOut : laidOutB Try.prog = true := by kernel_rfl

theorem isaUses_law : ∀ Ds, WtL (paramTys cx Try.f8) Ds → ∃ k d, callF cx k 12 noC d 8 Ds = some [.bool true] :=
  law_of k_l02_IsaUses (by kernel_rfl) fun x h => isaUses_ok x h

theorem isaUses_lifted (os : Os) (started : os.Started) (H : Type) (enc : TypeId × Value → H) :
    ReturnsInHanded {} Try.checked os 8 .any (Rows.isaUsesSpec.pre6 enc Try.prog Try.f8 Rows.isaUsesRow.domain false) (Rows.isaUsesSpec.post enc Try.prog Try.f8 false true false false) :=
  lift_true (cx := cx) (C := Try.checked) rfl tyOk mixed noC_ok 12 own laidOut started (by kernel_rfl) Try.func8 (by kernel_rfl) (by kernel_rfl) (by kernel_rfl) (tb := 4) rfl Try.underlying4 rfl rfl
    (fun ds h => by
      have h : ds.length = 6 := h
      match ds, h with
      | [_, _, _, _, _, _], _ => rfl) isaUses_law
    (ChangeSpec.witness6 (enc := enc) (C := Try.checked) false ⟨#[], #[.int .i64 0, .int .u8 0, .int .u8 0, .int .u8 0, .int .u32 0, .int .u8 0], []⟩ 8 (by kernel_rfl) (by kernel_rfl) (by kernel_rfl) (by kernel_rfl))

theorem isaUses_holds : Rows.IsaUsesSaid :=
  OpenClaim.holds_of_wide 8 Try.f8 rfl rfl rfl rfl rfl rfl rfl ⟨rfl, rfl, rfl, rfl, rfl⟩ rfl rfl rfl rfl rfl (by kernel_rfl) Try.func8 (by kernel_rfl)
    (of_decide_eq_true (by kernel_rfl)) (by unfold Func.isWrapper; first | (rw [if_pos (by decide +kernel)]; kernel_rfl) | (rw [if_neg (by decide +kernel)]; exact ⟨rfl, rfl⟩))
    (fun os started H enc _ => isaUses_lifted os started H enc)

#print axioms isaUses_holds

end Go.Proofs.Ytkgflipalefmfaa
