/- 'MachineStill' tells true whatever comes in, and its arguments read as they did. No condition. -/
import Derived.Test.YtplfgkjjgflhkaaGreatRows
import Derived.Test.YtplfgkjjgflhkaaGreatJ2
namespace Go.Proofs.YtplfgkjjgflhkaaGreat
open Go.SX

theorem own : ownKnob Tryz.prog.godebug = none := by kernel_rfl
theorem laidOut : laidOutB Tryz.prog = true := by kernel_rfl

theorem zsk : ∀ Ds, WtL (zcM cx Tryz.f4) Ds → ∃ k d, zgd cx k 12 noC d 4 Ds = some [.bool true] :=
  zJz zoM (by kernel_rfl) fun x h => zsL x h

theorem znt (os : Os) (started : os.Started) (H : Type) (enc : TypeId × Value → H) :
    ReturnsInHanded {} Tryz.checked os 4 .any (Rows.machineStillSpec.pre6 enc Tryz.prog Tryz.f4 Rows.machineStillRow.domain false) (Rows.machineStillSpec.post enc Tryz.prog Tryz.f4 false true false false) :=
  zFn (cx := cx) (C := Tryz.checked) rfl tyOk mixed zJi 12 own laidOut started (by kernel_rfl) Tryz.func4 (by kernel_rfl) (by kernel_rfl) (by kernel_rfl) (tb := 4) rfl Tryz.underlying4 rfl rfl
    (fun ds h => by
      have h : ds.length = 5 := h
      match ds, h with
      | [_, _, _, _, _], _ => rfl) zsk
    (ChangeSpec.witness6 (enc := enc) (C := Tryz.checked) false ⟨#[], #[.slice none 0 0, .int .u8 0, .int .u8 0, .int .u8 0, .slice none 0 0], []⟩ 8 (by kernel_rfl) (by kernel_rfl) (by kernel_rfl) (by kernel_rfl))

theorem machineStill_holds : Rows.MachineStillSaid :=
  OpenClaim.holds_of_wide 4 Tryz.f4 rfl rfl rfl rfl rfl rfl rfl ⟨rfl, rfl, rfl, rfl, rfl⟩ rfl rfl rfl rfl rfl (by kernel_rfl) Tryz.func4 (by kernel_rfl)
    (of_decide_eq_true (by kernel_rfl)) (by unfold Func.isWrapper; first | (rw [if_pos (by decide +kernel)]; kernel_rfl) | (rw [if_neg (by decide +kernel)]; exact ⟨rfl, rfl⟩))
    (fun os started H enc _ => znt os started H enc)

#print axioms machineStill_holds

end Go.Proofs.YtplfgkjjgflhkaaGreat
