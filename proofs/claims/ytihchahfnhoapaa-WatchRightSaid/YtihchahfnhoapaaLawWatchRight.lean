/- 'WatchRight' tells true whatever comes in, and its arguments read as they did. No condition. -/
import Derived.Test.YtihchahfnhoapaaRows
import Derived.Test.YtihchahfnhoapaaPW22e
namespace Go.Proofs.Ytihchahfnhoapaa
open Go.SX

theorem own : ownKnob Try.prog.godebug = none := by kernel_rfl
theorem laidOut : laidOutB Try.prog = true := by kernel_rfl

theorem watchRight_law : ∀ Ds, WtL (paramTys cx Try.f3) Ds → ∃ k d, callF cx k 12 noC d 3 Ds = some [.bool true] :=
  law_of k_l22_WatchRight (by kernel_rfl) fun x h => watchRight_ok x h

theorem watchRight_lifted (os : Os) (started : os.Started) (H : Type) (enc : TypeId × Value → H) :
    ReturnsInHanded {} Try.checked os 3 .any (Rows.watchRightSpec.pre6 enc Try.prog Try.f3 Rows.watchRightRow.domain false) (Rows.watchRightSpec.post enc Try.prog Try.f3 false true false false) :=
  lift_true (cx := cx) (C := Try.checked) rfl tyOk mixed noC_ok 12 own laidOut started (by kernel_rfl) Try.func3 (by kernel_rfl) (by kernel_rfl) (by kernel_rfl) (tb := 4) rfl Try.underlying4 rfl rfl
    (fun ds h => by
      have h : ds.length = 2 := h
      match ds, h with
      | [_, _], _ => rfl) watchRight_law
    (ChangeSpec.witness6 (enc := enc) (C := Try.checked) false ⟨#[], #[.agg #[.slice none 0 0, .slice none 0 0, .slice none 0 0, .slice none 0 0, .slice none 0 0, .slice none 0 0, .slice none 0 0], .int .i64 0], []⟩ 8 (by kernel_rfl) (by kernel_rfl) (by kernel_rfl) (by kernel_rfl))

theorem watchRight_holds : Rows.WatchRightSaid :=
  OpenClaim.holds_of_wide 3 Try.f3 rfl rfl rfl rfl rfl rfl rfl ⟨rfl, rfl, rfl, rfl, rfl⟩ rfl rfl rfl rfl rfl (by kernel_rfl) Try.func3 (by kernel_rfl)
    (of_decide_eq_true (by kernel_rfl)) (by unfold Func.isWrapper; first | (rw [if_pos (by decide +kernel)]; kernel_rfl) | (rw [if_neg (by decide +kernel)]; exact ⟨rfl, rfl⟩))
    (fun os started H enc _ => watchRight_lifted os started H enc)

#print axioms watchRight_holds

end Go.Proofs.Ytihchahfnhoapaa
