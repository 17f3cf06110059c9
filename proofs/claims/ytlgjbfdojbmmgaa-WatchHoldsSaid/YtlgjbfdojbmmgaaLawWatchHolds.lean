/- 'WatchHolds' tells true whatever comes in, and its arguments read as they did. No condition. -/
import Derived.Test.YtlgjbfdojbmmgaaRows
import Derived.Test.YtlgjbfdojbmmgaaS6
namespace Go.Proofs.Ytlgjbfdojbmmgaa
open Go.SX

theorem own : ownKnob Try.prog.godebug = none := by kernel_rfl
theorem laidOut : laidOutB Try.prog = true := by kernel_rfl

theorem zne : ∀ Ds, WtL (zaU cx Try.f9) Ds → ∃ k d, zdq cx k 12 noC d 9 Ds = some [.bool true] :=
  zzb zkL (by kernel_rfl) fun x h => zoz x h

theorem zjS (os : Os) (started : os.Started) (H : Type) (enc : TypeId × Value → H) :
    ReturnsInHanded {} Try.checked os 9 .any (Rows.watchHoldsSpec.pre6 enc Try.prog Try.f9 Rows.watchHoldsRow.domain false) (Rows.watchHoldsSpec.post enc Try.prog Try.f9 false true false false) :=
  zuq (cx := cx) (C := Try.checked) rfl zBo mixed zyF 12 own laidOut started (by kernel_rfl) Try.func9 (by kernel_rfl) (by kernel_rfl) (by kernel_rfl) (tb := 4) rfl Try.underlying4 rfl rfl
    (fun ds h => by
      have h : ds.length = 3 := h
      match ds, h with
      | [_, _, _], _ => rfl) zne
    (ChangeSpec.witness6 (enc := enc) (C := Try.checked) false ⟨#[], #[.int .u8 0, .int .u8 0, .slice none 0 0], []⟩ 8 (by kernel_rfl) (by kernel_rfl) (by kernel_rfl) (by kernel_rfl))

theorem watchHolds_holds : Rows.WatchHoldsSaid :=
  OpenClaim.holds_of_wide 9 Try.f9 rfl rfl rfl rfl rfl rfl rfl ⟨rfl, rfl, rfl, rfl, rfl⟩ rfl rfl rfl rfl rfl (by kernel_rfl) Try.func9 (by kernel_rfl)
    (of_decide_eq_true (by kernel_rfl)) (by unfold Func.isWrapper; first | (rw [if_pos (by decide +kernel)]; kernel_rfl) | (rw [if_neg (by decide +kernel)]; exact ⟨rfl, rfl⟩))
    (fun os started H enc _ => zjS os started H enc)

#print axioms watchHolds_holds

end Go.Proofs.Ytlgjbfdojbmmgaa
