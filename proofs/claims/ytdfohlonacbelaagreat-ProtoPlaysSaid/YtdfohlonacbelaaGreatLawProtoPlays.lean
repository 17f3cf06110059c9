import Derived.Test.YtdfohlonacbelaaGreatRows
import Derived.Test.YtdfohlonacbelaaGreatQG
namespace Go.Proofs.YtdfohlonacbelaaGreat
open Go.SX
theorem own : ownKnob Tryz.prog.godebug = none := by kernel_rfl
theorem laidOut : laidOutB Tryz.prog = true := by kernel_rfl
theorem zoY : ∀ Ds, WtL (za5 cx Tryz.f4) Ds → ∃ k d, zdG cx k 12 noC d 4 Ds = some [.bool true] :=
  zAw zme (by kernel_rfl) fun x h => zqW x h
theorem zlA (os : Os) (started : os.Started) (H : Type) (enc : TypeId × Value → H) :
    ReturnsInHanded {} Tryz.checked os 4 .any (Rows.protoPlaysSpec.pre6 enc Tryz.prog Tryz.f4 Rows.protoPlaysRow.domain false) (Rows.protoPlaysSpec.post enc Tryz.prog Tryz.f4 false true false false) :=
  zxB (cx := cx) (C := Tryz.checked) rfl zB8 mixed zz8 12 own laidOut started (by kernel_rfl) Tryz.func4 (by kernel_rfl) (by kernel_rfl) (by kernel_rfl) (tb := 4) rfl Tryz.underlying4 rfl rfl
    (fun ds h => by
      have h : ds.length = 3 := h
      match ds, h with
      | [_, _, _], _ => rfl) zoY
    (ChangeSpec.witness6 (enc := enc) (C := Tryz.checked) false ⟨#[], #[.int .i64 0, .int .i64 0, .slice none 0 0], []⟩ 8 (by kernel_rfl) (by kernel_rfl) (by kernel_rfl) (by kernel_rfl))
theorem protoPlays_holds : Rows.ProtoPlaysSaid :=
  OpenClaim.holds_of_wide 4 Tryz.f4 rfl rfl rfl rfl rfl rfl rfl ⟨rfl, rfl, rfl, rfl, rfl⟩ rfl rfl rfl rfl rfl (by kernel_rfl) Tryz.func4 (by kernel_rfl)
    (of_decide_eq_true (by kernel_rfl)) (by unfold Func.isWrapper; first | (rw [if_pos (by decide +kernel)]; kernel_rfl) | (rw [if_neg (by decide +kernel)]; exact ⟨rfl, rfl⟩))
    (fun os started H enc _ => zlA os started H enc)
#print axioms protoPlays_holds
end Go.Proofs.YtdfohlonacbelaaGreat
