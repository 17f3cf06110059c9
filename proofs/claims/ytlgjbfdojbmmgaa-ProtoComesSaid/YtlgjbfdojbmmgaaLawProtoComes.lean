/- 'ProtoComes' tells true whatever comes in, and its arguments read as they did. No condition. -/
import Derived.Test.YtlgjbfdojbmmgaaRows
import Derived.Test.YtlgjbfdojbmmgaaS4
namespace Go.Proofs.Ytlgjbfdojbmmgaa
open Go.SX

theorem own : ownKnob Try.prog.godebug = none := by kernel_rfl
theorem laidOut : laidOutB Try.prog = true := by kernel_rfl

theorem zl9 : ∀ Ds, WtL (zaP cx Try.f7) Ds → ∃ k d, zc9 cx k 12 noC d 7 Ds = some [.bool true] :=
  zyh zj4 (by kernel_rfl) fun x h => zoe x h

theorem zi2 (os : Os) (started : os.Started) (H : Type) (enc : TypeId × Value → H) :
    ReturnsInHanded {} Try.checked os 7 .any (Rows.protoComesSpec.pre6 enc Try.prog Try.f7 Rows.protoComesRow.domain false) (Rows.protoComesSpec.post enc Try.prog Try.f7 false true false false) :=
  zuz (cx := cx) (C := Try.checked) rfl tyOk mixed zyf 12 own laidOut started (by kernel_rfl) Try.func7 (by kernel_rfl) (by kernel_rfl) (by kernel_rfl) (tb := 4) rfl Try.underlying4 rfl rfl
    (fun ds h => by
      have h : ds.length = 6 := h
      match ds, h with
      | [_, _, _, _, _, _], _ => rfl) zl9
    (ChangeSpec.witness6 (enc := enc) (C := Try.checked) false ⟨#[], #[.int .u8 0, .int .u8 0, .slice none 0 0, .int .u8 0, .int .u8 0, .bool false], []⟩ 8 (by kernel_rfl) (by kernel_rfl) (by kernel_rfl) (by kernel_rfl))

theorem protoComes_holds : Rows.ProtoComesSaid :=
  OpenClaim.holds_of_wide 7 Try.f7 rfl rfl rfl rfl rfl rfl rfl ⟨rfl, rfl, rfl, rfl, rfl⟩ rfl rfl rfl rfl rfl (by kernel_rfl) Try.func7 (by kernel_rfl)
    (of_decide_eq_true (by kernel_rfl)) (by unfold Func.isWrapper; first | (rw [if_pos (by decide +kernel)]; kernel_rfl) | (rw [if_neg (by decide +kernel)]; exact ⟨rfl, rfl⟩))
    (fun os started H enc _ => zi2 os started H enc)

#print axioms protoComes_holds

end Go.Proofs.Ytlgjbfdojbmmgaa
