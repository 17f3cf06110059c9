/- 'IsaStays' tells true whatever comes in, and its arguments read as they did. No condition. -/
import Derived.Test.YtkgflipalefmfaaRows
import Derived.Test.YtkgflipalefmfaaIsa7
namespace Go.Proofs.Ytkgflipalefmfaa
open Go.SX

theorem own : ownKnob Try.prog.godebug = none := by kernel_rfl
theorem laidOut : laidOutB Try.prog = true := by kernel_rfl

theorem isaStays_law (Ds : List D) (h : WtL (paramTys cx Try.f9) Ds) : ∃ k d, callF cx k 12 noC d 9 Ds = some [.bool true] := by
  have h : WtL [.sl (.st [.int .i64, .int .i64, .int .i64, .int .i64, .int .u32])] Ds := h
  obtain ⟨d1, l1, rfl, h1, h⟩ := h.toCons
  obtain rfl := h.toNil
  obtain ⟨l, hp⟩ := prog_of h1
  exact (callL_some cx 12 noC).1 (isa_stays d1 l hp)

theorem isaStays_lifted (os : Os) (started : os.Started) (H : Type) (enc : TypeId × Value → H) :
    ReturnsInHanded {} Try.checked os 9 .any (Rows.isaStaysSpec.pre6 enc Try.prog Try.f9 Rows.isaStaysRow.domain false) (Rows.isaStaysSpec.post enc Try.prog Try.f9 false true false false) :=
  lift_true (cx := cx) (C := Try.checked) rfl tyOk mixed noC_ok 12 own laidOut started (by kernel_rfl) Try.func9 (by kernel_rfl) (by kernel_rfl) (by kernel_rfl) (tb := 4) rfl Try.underlying4 rfl rfl
    (fun ds h => by
      have h : ds.length = 1 := h
      match ds, h with
      | [_], _ => rfl) isaStays_law
    (ChangeSpec.witness6 (enc := enc) (C := Try.checked) false ⟨#[], #[.slice none 0 0], []⟩ 8 (by kernel_rfl) (by kernel_rfl) (by kernel_rfl) (by kernel_rfl))

theorem isaStays_holds : Rows.IsaStaysSaid :=
  OpenClaim.holds_of_wide 9 Try.f9 rfl rfl rfl rfl rfl rfl rfl ⟨rfl, rfl, rfl, rfl, rfl⟩ rfl rfl rfl rfl rfl (by kernel_rfl) Try.func9 (by kernel_rfl)
    (of_decide_eq_true (by kernel_rfl)) (by unfold Func.isWrapper; first | (rw [if_pos (by decide +kernel)]; kernel_rfl) | (rw [if_neg (by decide +kernel)]; exact ⟨rfl, rfl⟩))
    (fun os started H enc _ => isaStays_lifted os started H enc)

#print axioms isaStays_holds

end Go.Proofs.Ytkgflipalefmfaa
