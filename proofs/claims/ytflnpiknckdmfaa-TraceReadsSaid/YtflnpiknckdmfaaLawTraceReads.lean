/- 'TraceReads' tells true whatever comes in, and its arguments read as they did. No condition. -/
import Derived.Test.YtflnpiknckdmfaaRows
import Derived.Test.YtflnpiknckdmfaaP21d
namespace Go.Proofs.Ytflnpiknckdmfaa
open Go.SX

theorem own : ownKnob Try.prog.godebug = none := by kernel_rfl
theorem laidOut : laidOutB Try.prog = true := by kernel_rfl

theorem traceReads_law : ∀ Ds, WtL (paramTys cx Try.f10) Ds → ∃ k d, callF cx k 12 noC d 10 Ds = some [.bool true] :=
  law_of k_l21_TraceReads (by kernel_rfl) fun x h => traceReads_ok x h

theorem traceReads_lifted (os : Os) (started : os.Started) (H : Type) (enc : TypeId × Value → H) :
    ReturnsInHanded {} Try.checked os 10 .any (Rows.traceReadsSpec.pre6 enc Try.prog Try.f10 Rows.traceReadsRow.domain false) (Rows.traceReadsSpec.post enc Try.prog Try.f10 false true false false) :=
  lift_true (cx := cx) (C := Try.checked) rfl tyOk mixed noC_ok 12 own laidOut started (by kernel_rfl) Try.func10 (by kernel_rfl) (by kernel_rfl) (by kernel_rfl) (tb := 4) rfl Try.underlying4 rfl rfl
    (fun ds h => by
      have h : ds.length = 5 := h
      match ds, h with
      | [_, _, _, _, _], _ => rfl) traceReads_law
    (ChangeSpec.witness6 (enc := enc) (C := Try.checked) false ⟨#[], #[.slice none 0 0, .int .u8 0, .int .u8 0, .int .u8 0, .int .u8 0], []⟩ 8 (by kernel_rfl) (by kernel_rfl) (by kernel_rfl) (by kernel_rfl))

theorem traceReads_holds : Rows.TraceReadsSaid :=
  OpenClaim.holds_of_wide 10 Try.f10 rfl rfl rfl rfl rfl rfl rfl ⟨rfl, rfl, rfl, rfl, rfl⟩ rfl rfl rfl rfl rfl (by kernel_rfl) Try.func10 (by kernel_rfl)
    (of_decide_eq_true (by kernel_rfl)) (by unfold Func.isWrapper; first | (rw [if_pos (by decide +kernel)]; kernel_rfl) | (rw [if_neg (by decide +kernel)]; exact ⟨rfl, rfl⟩))
    (fun os started H enc _ => traceReads_lifted os started H enc)

#print axioms traceReads_holds

end Go.Proofs.Ytflnpiknckdmfaa
