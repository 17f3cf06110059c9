/- 'ParityTurns' tells true whatever comes in, and its arguments read as they did. No condition. -/
import Derived.Test.YtflnpiknckdmfaaRows
import Derived.Test.YtflnpiknckdmfaaP07g
namespace Go.Proofs.Ytflnpiknckdmfaa
open Go.SX

theorem own : ownKnob Try.prog.godebug = none := by kernel_rfl
theorem laidOut : laidOutB Try.prog = true := by kernel_rfl

theorem parityTurns_law : ∀ Ds, WtL (paramTys cx Try.f7) Ds → ∃ k d, callF cx k 12 noC d 7 Ds = some [.bool true] :=
  law_of k_l07_ParityTurns (by kernel_rfl) fun x h => parityTurns_ok x h

theorem parityTurns_lifted (os : Os) (started : os.Started) (H : Type) (enc : TypeId × Value → H) :
    ReturnsInHanded {} Try.checked os 7 .any (Rows.parityTurnsSpec.pre6 enc Try.prog Try.f7 Rows.parityTurnsRow.domain false) (Rows.parityTurnsSpec.post enc Try.prog Try.f7 false true false false) :=
  lift_true (cx := cx) (C := Try.checked) rfl tyOk mixed noC_ok 12 own laidOut started (by kernel_rfl) Try.func7 (by kernel_rfl) (by kernel_rfl) (by kernel_rfl) (tb := 4) rfl Try.underlying4 rfl rfl
    (fun ds h => by
      have h : ds.length = 4 := h
      match ds, h with
      | [_, _, _, _], _ => rfl) parityTurns_law
    (ChangeSpec.witness6 (enc := enc) (C := Try.checked) false ⟨#[], #[.int .u8 0, .int .u8 0, .agg #[.int .u8 0, .int .u8 0, .int .u32 0], .agg #[.int .u8 0, .int .u8 0, .int .u32 0]], []⟩ 8 (by kernel_rfl) (by kernel_rfl) (by kernel_rfl) (by kernel_rfl))

theorem parityTurns_holds : Rows.ParityTurnsSaid :=
  OpenClaim.holds_of_wide 7 Try.f7 rfl rfl rfl rfl rfl rfl rfl ⟨rfl, rfl, rfl, rfl, rfl⟩ rfl rfl rfl rfl rfl (by kernel_rfl) Try.func7 (by kernel_rfl)
    (of_decide_eq_true (by kernel_rfl)) (by unfold Func.isWrapper; first | (rw [if_pos (by decide +kernel)]; kernel_rfl) | (rw [if_neg (by decide +kernel)]; exact ⟨rfl, rfl⟩))
    (fun os started H enc _ => parityTurns_lifted os started H enc)

#print axioms parityTurns_holds

end Go.Proofs.Ytflnpiknckdmfaa
