/- 'StoreRight' tells true whatever comes in, and its arguments read as they did. No condition. -/
import Derived.Test.YtlgjbfdojbmmgaaRows
import Derived.Test.YtlgjbfdojbmmgaaV6
namespace Go.Proofs.Ytlgjbfdojbmmgaa
open Go.SX

theorem own : ownKnob Try.prog.godebug = none := by kernel_rfl
theorem laidOut : laidOutB Try.prog = true := by kernel_rfl

theorem zl6 : ∀ Ds, WtL (zaR cx Try.f3) Ds → ∃ k d, zec cx k 12 noC d 3 Ds = some [.bool true] :=
  zx9 zj5 (by kernel_rfl) fun x h => zol x h

theorem zi0 (os : Os) (started : os.Started) (H : Type) (enc : TypeId × Value → H) :
    ReturnsInHanded {} Try.checked os 3 .any (Rows.storeRightSpec.pre6 enc Try.prog Try.f3 Rows.storeRightRow.domain false) (Rows.storeRightSpec.post enc Try.prog Try.f3 false true false false) :=
  zvf (cx := cx) (C := Try.checked) rfl tyOk mixed zx1 12 own laidOut started (by kernel_rfl) Try.func3 (by kernel_rfl) (by kernel_rfl) (by kernel_rfl) (tb := 4) rfl Try.underlying4 rfl rfl
    (fun ds h => by
      have h : ds.length = 7 := h
      match ds, h with
      | [_, _, _, _, _, _, _], _ => rfl) zl6
    (ChangeSpec.witness6 (enc := enc) (C := Try.checked) false ⟨#[], #[.agg #[.slice none 0 0, .slice none 0 0, .int .i64 0, .int .i64 0, .int .i64 0, .slice none 0 0], .int .i64 0, .int .u32 0, .int .i64 0, .int .i64 0, .int .i64 0, .int .i64 0], []⟩ 8 (by kernel_rfl) (by kernel_rfl) (by kernel_rfl) (by kernel_rfl))

theorem storeRight_holds : Rows.StoreRightSaid :=
  OpenClaim.holds_of_wide 3 Try.f3 rfl rfl rfl rfl rfl rfl rfl ⟨rfl, rfl, rfl, rfl, rfl⟩ rfl rfl rfl rfl rfl (by kernel_rfl) Try.func3 (by kernel_rfl)
    (of_decide_eq_true (by kernel_rfl)) (by unfold Func.isWrapper; first | (rw [if_pos (by decide +kernel)]; kernel_rfl) | (rw [if_neg (by decide +kernel)]; exact ⟨rfl, rfl⟩))
    (fun os started H enc _ => zi0 os started H enc)

#print axioms storeRight_holds

end Go.Proofs.Ytlgjbfdojbmmgaa
