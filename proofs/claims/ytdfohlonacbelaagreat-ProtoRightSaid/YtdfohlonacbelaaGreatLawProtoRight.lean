/- 'ProtoRight' tells true whatever comes in, and its arguments read as they did. No condition. -/
import Derived.Test.YtdfohlonacbelaaGreatRows
import Derived.Test.YtdfohlonacbelaaGreatQE
namespace Go.Proofs.YtdfohlonacbelaaGreat
open Go.SX

theorem own : ownKnob Tryz.prog.godebug = none := by kernel_rfl
theorem laidOut : laidOutB Tryz.prog = true := by kernel_rfl

theorem zoP : ∀ Ds, WtL (za1 cx Tryz.f3) Ds → ∃ k d, zdF cx k 12 noC d 3 Ds = some [.bool true] :=
  zAb zmc (by kernel_rfl) fun x h => zqB x h

theorem zlv (os : Os) (started : os.Started) (H : Type) (enc : TypeId × Value → H) :
    ReturnsInHanded {} Tryz.checked os 3 .any (Rows.protoRightSpec.pre6 enc Tryz.prog Tryz.f3 Rows.protoRightRow.domain false) (Rows.protoRightSpec.post enc Tryz.prog Tryz.f3 false true false false) :=
  zxV (cx := cx) (C := Tryz.checked) rfl tyOk mixed zzS 12 own laidOut started (by kernel_rfl) Tryz.func3 (by kernel_rfl) (by kernel_rfl) (by kernel_rfl) (tb := 4) rfl Tryz.underlying4 rfl rfl
    (fun ds h => by
      have h : ds.length = 6 := h
      match ds, h with
      | [_, _, _, _, _, _], _ => rfl) zoP
    (ChangeSpec.witness6 (enc := enc) (C := Tryz.checked) false ⟨#[], #[.agg #[.slice none 0 0, .slice none 0 0, .slice none 0 0, .slice none 0 0, .slice none 0 0, .slice none 0 0, .slice none 0 0], .int .i64 0, .int .i64 0, .bool false, .int .u32 0, .int .i64 0], []⟩ 8 (by kernel_rfl) (by kernel_rfl) (by kernel_rfl) (by kernel_rfl))

theorem protoRight_holds : Rows.ProtoRightSaid :=
  OpenClaim.holds_of_wide 3 Tryz.f3 rfl rfl rfl rfl rfl rfl rfl ⟨rfl, rfl, rfl, rfl, rfl⟩ rfl rfl rfl rfl rfl (by kernel_rfl) Tryz.func3 (by kernel_rfl)
    (of_decide_eq_true (by kernel_rfl)) (by unfold Func.isWrapper; first | (rw [if_pos (by decide +kernel)]; kernel_rfl) | (rw [if_neg (by decide +kernel)]; exact ⟨rfl, rfl⟩))
    (fun os started H enc _ => zlv os started H enc)

#print axioms protoRight_holds

end Go.Proofs.YtdfohlonacbelaaGreat
