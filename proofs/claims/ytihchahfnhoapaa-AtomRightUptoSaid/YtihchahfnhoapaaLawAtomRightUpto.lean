/- 'AtomRight' tells true whatever comes in that is of bulk at most 1048576, and its arguments read as they did. Its condition is that of the statement's second form. -/
import Derived.Test.YtihchahfnhoapaaRows
import Derived.Test.YtihchahfnhoapaaPS04f
namespace Go.Proofs.Ytihchahfnhoapaa
open Go.SX

theorem own : ownKnob Try.prog.godebug = none := by kernel_rfl
theorem laidOut : laidOutB Try.prog = true := by kernel_rfl

theorem atomRight_law : ∀ Ds, WtL (paramTys cx Try.f11) Ds → fitL 1048576 Ds → ∃ k d, callF cx k 12 noC d 11 Ds = some [.bool true] :=
  law_of_fit k_l04_AtomRight (by kernel_rfl) fun Ds x hr hN h => atomRight_ok Ds x hr hN h

theorem atomRight_lifted (os : Os) (started : os.Started) (H : Type) (enc : TypeId × Value → H) (F : Stop.Interp) :
    ReturnsInHanded {} Try.checked os 11 .any ((Rows.OpenSpec.upto Rows.atomRightSpec).pre6 enc Try.prog Try.f11 Rows.atomRightUptoRow.domain false) (((Rows.OpenSpec.upto Rows.atomRightSpec).at F).post enc Try.prog Try.f11 false true false false) :=
  lift_upto (cx := cx) (C := Try.checked) rfl tyOk mixed noC_ok 12 own laidOut started (by kernel_rfl) Try.func11 (by kernel_rfl) (by kernel_rfl) (by kernel_rfl) (by kernel_rfl) (tb := 4) rfl Try.underlying4 rfl rfl
    (fun ds h => by
      have h : ds.length = 5 := h
      match ds, h with
      | [_, _, _, _, _], _ => rfl) atomRight_law
    (OpenSpec.witness (enc := enc) (C := Try.checked) (s := Rows.OpenSpec.upto Rows.atomRightSpec) (k := Rows.uptoSmall) rfl false ⟨#[], #[.slice none 0 0, .agg #[.slice none 0 0, .slice none 0 0, .slice none 0 0], .int .i64 0, .int .i64 0, .agg #[.int .i64 0, .int .i64 0, .int .u32 0, .int .u32 0]], []⟩ 8 (by kernel_rfl) (by kernel_rfl) (by kernel_rfl)
      (x := ([.nil, .agg [.nil, .nil, .nil], .lit (.int .i64 0), .lit (.int .i64 0), .agg [.lit (.int .i64 0), .lit (.int .i64 0), .lit (.int .u32 0), .lit (.int .u32 0)]], [], [])) (by kernel_rfl) rfl (by kernel_rfl))

theorem atomRight_holds : Rows.AtomRightUptoSaid :=
  OpenClaim.holds_of_cond 11 Try.f11 rfl rfl rfl rfl rfl rfl rfl ⟨rfl, rfl, rfl, rfl, rfl⟩ rfl rfl rfl rfl rfl (by kernel_rfl) Try.func11 (by kernel_rfl)
    (of_decide_eq_true (by kernel_rfl)) (by unfold Func.isWrapper; first | (rw [if_pos (by decide +kernel)]; kernel_rfl) | (rw [if_neg (by decide +kernel)]; exact ⟨rfl, rfl⟩))
    (fun os started H enc _ F => atomRight_lifted os started H enc F)

#print axioms atomRight_holds

end Go.Proofs.Ytihchahfnhoapaa
