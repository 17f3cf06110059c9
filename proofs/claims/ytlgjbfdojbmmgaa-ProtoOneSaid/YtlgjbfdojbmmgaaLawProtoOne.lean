/- 'ProtoOne' tells true whatever comes in, and its arguments read as they did. No condition. -/
import Derived.Test.YtlgjbfdojbmmgaaRows
import Derived.Test.YtlgjbfdojbmmgaaS1
namespace Go.Proofs.Ytlgjbfdojbmmgaa
open Go.SX

theorem own : ownKnob Try.prog.godebug = none := by kernel_rfl
theorem laidOut : laidOutB Try.prog = true := by kernel_rfl

theorem zps : ∀ Ds, WtL (zaU cx Try.f6) Ds → ∃ k d, zdb cx k 12 noC d 6 Ds = some [.bool true] :=
  zxL zmr (by kernel_rfl) fun x h => zqm x h

theorem zkp (os : Os) (started : os.Started) (H : Type) (enc : TypeId × Value → H) :
    ReturnsInHanded {} Try.checked os 6 .any (Rows.protoOneSpec.pre6 enc Try.prog Try.f6 Rows.protoOneRow.domain false) (Rows.protoOneSpec.post enc Try.prog Try.f6 false true false false) :=
  zua (cx := cx) (C := Try.checked) rfl tyOk mixed zxp 12 own laidOut started (by kernel_rfl) Try.func6 (by kernel_rfl) (by kernel_rfl) (by kernel_rfl) (tb := 4) rfl Try.underlying4 rfl rfl
    (fun ds h => by
      have h : ds.length = 3 := h
      match ds, h with
      | [_, _, _], _ => rfl) zps
    (ChangeSpec.witness6 (enc := enc) (C := Try.checked) false ⟨#[], #[.int .u8 0, .int .u8 0, .slice none 0 0], []⟩ 8 (by kernel_rfl) (by kernel_rfl) (by kernel_rfl) (by kernel_rfl))

theorem protoOne_holds : Rows.ProtoOneSaid :=
  OpenClaim.holds_of_wide 6 Try.f6 rfl rfl rfl rfl rfl rfl rfl ⟨rfl, rfl, rfl, rfl, rfl⟩ rfl rfl rfl rfl rfl (by kernel_rfl) Try.func6 (by kernel_rfl)
    (of_decide_eq_true (by kernel_rfl)) (by unfold Func.isWrapper; first | (rw [if_pos (by decide +kernel)]; kernel_rfl) | (rw [if_neg (by decide +kernel)]; exact ⟨rfl, rfl⟩))
    (fun os started H enc _ => zkp os started H enc)

#print axioms protoOne_holds

end Go.Proofs.Ytlgjbfdojbmmgaa
