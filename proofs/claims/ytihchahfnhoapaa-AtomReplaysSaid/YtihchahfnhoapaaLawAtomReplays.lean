/- 'AtomReplays' tells true whatever comes in, and its arguments read as they did. No condition. -/
import Derived.Test.YtihchahfnhoapaaRows
import Derived.Test.YtihchahfnhoapaaPR04e
namespace Go.Proofs.Ytihchahfnhoapaa
open Go.SX

theorem own : ownKnob Try.prog.godebug = none := by kernel_rfl
theorem laidOut : laidOutB Try.prog = true := by kernel_rfl

theorem atomReplays_law : ∀ Ds, WtL (paramTys cx Try.f9) Ds → ∃ k d, callF cx k 12 noC d 9 Ds = some [.bool true] :=
  law_of k_l04_AtomReplays (by kernel_rfl) fun x h => atomReplays_ok x h

theorem atomReplays_lifted (os : Os) (started : os.Started) (H : Type) (enc : TypeId × Value → H) :
    ReturnsInHanded {} Try.checked os 9 .any (Rows.atomReplaysSpec.pre6 enc Try.prog Try.f9 Rows.atomReplaysRow.domain false) (Rows.atomReplaysSpec.post enc Try.prog Try.f9 false true false false) :=
  lift_true (cx := cx) (C := Try.checked) rfl tyOk mixed noC_ok 12 own laidOut started (by kernel_rfl) Try.func9 (by kernel_rfl) (by kernel_rfl) (by kernel_rfl) (tb := 4) rfl Try.underlying4 rfl rfl
    (fun ds h => by
      have h : ds.length = 3 := h
      match ds, h with
      | [_, _, _], _ => rfl) atomReplays_law
    (ChangeSpec.witness6 (enc := enc) (C := Try.checked) false ⟨#[], #[.slice none 0 0, .int .u8 0, .slice none 0 0], []⟩ 8 (by kernel_rfl) (by kernel_rfl) (by kernel_rfl) (by kernel_rfl))

theorem atomReplays_holds : Rows.AtomReplaysSaid :=
  OpenClaim.holds_of_wide 9 Try.f9 rfl rfl rfl rfl rfl rfl rfl ⟨rfl, rfl, rfl, rfl, rfl⟩ rfl rfl rfl rfl rfl (by kernel_rfl) Try.func9 (by kernel_rfl)
    (of_decide_eq_true (by kernel_rfl)) (by unfold Func.isWrapper; first | (rw [if_pos (by decide +kernel)]; kernel_rfl) | (rw [if_neg (by decide +kernel)]; exact ⟨rfl, rfl⟩))
    (fun os started H enc _ => atomReplays_lifted os started H enc)

#print axioms atomReplays_holds

end Go.Proofs.Ytihchahfnhoapaa
