/- 'ProtoHome' tells true whatever comes in, and its arguments read as they did. No condition. -/
import Derived.Test.YtlgjbfdojbmmgaaRows
import Derived.Test.YtlgjbfdojbmmgaaS5
namespace Go.Proofs.Ytlgjbfdojbmmgaa
open Go.SX

theorem own : ownKnob Try.prog.godebug = none := by kernel_rfl
theorem laidOut : laidOutB Try.prog = true := by kernel_rfl

theorem znn : ∀ Ds, WtL (zaS cx Try.f8) Ds → ∃ k d, zdl cx k 12 noC d 8 Ds = some [.bool true] :=
  zxF zkO (by kernel_rfl) fun x h => zpa x h

theorem zj7 (os : Os) (started : os.Started) (H : Type) (enc : TypeId × Value → H) :
    ReturnsInHanded {} Try.checked os 8 .any (Rows.protoHomeSpec.pre6 enc Try.prog Try.f8 Rows.protoHomeRow.domain false) (Rows.protoHomeSpec.post enc Try.prog Try.f8 false true false false) :=
  zul (cx := cx) (C := Try.checked) rfl tyOk mixed zxI 12 own laidOut started (by kernel_rfl) Try.func8 (by kernel_rfl) (by kernel_rfl) (by kernel_rfl) (tb := 4) rfl Try.underlying4 rfl rfl
    (fun ds h => by
      have h : ds.length = 5 := h
      match ds, h with
      | [_, _, _, _, _], _ => rfl) znn
    (ChangeSpec.witness6 (enc := enc) (C := Try.checked) false ⟨#[], #[.int .u8 0, .int .u8 0, .slice none 0 0, .int .u8 0, .int .u8 0], []⟩ 8 (by kernel_rfl) (by kernel_rfl) (by kernel_rfl) (by kernel_rfl))

theorem protoHome_holds : Rows.ProtoHomeSaid :=
  OpenClaim.holds_of_wide 8 Try.f8 rfl rfl rfl rfl rfl rfl rfl ⟨rfl, rfl, rfl, rfl, rfl⟩ rfl rfl rfl rfl rfl (by kernel_rfl) Try.func8 (by kernel_rfl)
    (of_decide_eq_true (by kernel_rfl)) (by unfold Func.isWrapper; first | (rw [if_pos (by decide +kernel)]; kernel_rfl) | (rw [if_neg (by decide +kernel)]; exact ⟨rfl, rfl⟩))
    (fun os started H enc _ => zj7 os started H enc)

#print axioms protoHome_holds

end Go.Proofs.Ytlgjbfdojbmmgaa
