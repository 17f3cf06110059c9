/- 'PoolKeeps' tells true whatever comes in, and its arguments read as they did. No condition. -/
import Derived.Test.YtihchahfnhoapaaRows
import Derived.Test.YtihchahfnhoapaaPK06g
namespace Go.Proofs.Ytihchahfnhoapaa
open Go.SX

theorem own : ownKnob Try.prog.godebug = none := by kernel_rfl
theorem laidOut : laidOutB Try.prog = true := by kernel_rfl

theorem poolKeeps_law : ∀ Ds, WtL (paramTys cx Try.f8) Ds → ∃ k d, callF cx k 12 noC d 8 Ds = some [.bool true] :=
  law_of k_l06_PoolKeeps (by kernel_rfl) fun x h => poolKeeps_ok x h

theorem poolKeeps_lifted (os : Os) (started : os.Started) (H : Type) (enc : TypeId × Value → H) :
    ReturnsInHanded {} Try.checked os 8 .any (Rows.poolKeepsSpec.pre6 enc Try.prog Try.f8 Rows.poolKeepsRow.domain false) (Rows.poolKeepsSpec.post enc Try.prog Try.f8 false true false false) :=
  lift_true (cx := cx) (C := Try.checked) rfl tyOk mixed noC_ok 12 own laidOut started (by kernel_rfl) Try.func8 (by kernel_rfl) (by kernel_rfl) (by kernel_rfl) (tb := 4) rfl Try.underlying4 rfl rfl
    (fun ds h => by
      have h : ds.length = 1 := h
      match ds, h with
      | [_], _ => rfl) poolKeeps_law
    (ChangeSpec.witness6 (enc := enc) (C := Try.checked) false ⟨#[], #[.slice none 0 0], []⟩ 8 (by kernel_rfl) (by kernel_rfl) (by kernel_rfl) (by kernel_rfl))

theorem poolKeeps_holds : Rows.PoolKeepsSaid :=
  OpenClaim.holds_of_wide 8 Try.f8 rfl rfl rfl rfl rfl rfl rfl ⟨rfl, rfl, rfl, rfl, rfl⟩ rfl rfl rfl rfl rfl (by kernel_rfl) Try.func8 (by kernel_rfl)
    (of_decide_eq_true (by kernel_rfl)) (by unfold Func.isWrapper; first | (rw [if_pos (by decide +kernel)]; kernel_rfl) | (rw [if_neg (by decide +kernel)]; exact ⟨rfl, rfl⟩))
    (fun os started H enc _ => poolKeeps_lifted os started H enc)

#print axioms poolKeeps_holds

end Go.Proofs.Ytihchahfnhoapaa
