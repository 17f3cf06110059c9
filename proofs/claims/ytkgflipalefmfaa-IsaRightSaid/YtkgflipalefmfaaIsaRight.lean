/- 'IsaRight' tells true whatever comes in, and its arguments read as they did. No condition. -/
import Derived.Test.YtkgflipalefmfaaRows
import Derived.Test.YtkgflipalefmfaaIsa6
namespace Go.Proofs.Ytkgflipalefmfaa
open Go.SX

theorem own : ownKnob Try.prog.godebug = none := by kernel_rfl
theorem laidOut : laidOutB Try.prog = true := by kernel_rfl

theorem isaRight_law (Ds : List D) (h : WtL (paramTys cx Try.f7) Ds) : ∃ k d, callF cx k 12 noC d 7 Ds = some [.bool true] := by
  have h : WtL [.st [.int .i64, .int .i64, .int .i64, .int .i64, .int .u32], .int .i64, .sl (.sl (.st [.int .i64, .int .i64, .int .i64, .int .i64, .int .u32]))] Ds := h
  obtain ⟨d1, l1, rfl, h1, h⟩ := h.toCons
  obtain ⟨d2, l2, rfl, h2, h⟩ := h.toCons
  obtain ⟨d3, l3, rfl, h3, h⟩ := h.toCons
  obtain rfl := h.toNil
  obtain ⟨x, rfl, hx⟩ := ins_of h1
  obtain ⟨many, rfl, _, hm⟩ := h2.toInt
  obtain ⟨xs, ps, hp⟩ := progs_of h3
  exact (callL_some cx 12 noC).1 (isa_right x hx many hm hp)

theorem isaRight_lifted (os : Os) (started : os.Started) (H : Type) (enc : TypeId × Value → H) :
    ReturnsInHanded {} Try.checked os 7 .any (Rows.isaRightSpec.pre6 enc Try.prog Try.f7 Rows.isaRightRow.domain false) (Rows.isaRightSpec.post enc Try.prog Try.f7 false true false false) :=
  lift_true (cx := cx) (C := Try.checked) rfl tyOk mixed noC_ok 12 own laidOut started (by kernel_rfl) Try.func7 (by kernel_rfl) (by kernel_rfl) (by kernel_rfl) (tb := 4) rfl Try.underlying4 rfl rfl
    (fun ds h => by
      have h : ds.length = 3 := h
      match ds, h with
      | [_, _, _], _ => rfl) isaRight_law
    (ChangeSpec.witness6 (enc := enc) (C := Try.checked) false ⟨#[], #[.agg #[.int .i64 0, .int .i64 0, .int .i64 0, .int .i64 0, .int .u32 0], .int .i64 0, .slice none 0 0], []⟩ 8 (by kernel_rfl) (by kernel_rfl) (by kernel_rfl) (by kernel_rfl))

theorem isaRight_holds : Rows.IsaRightSaid :=
  OpenClaim.holds_of_wide 7 Try.f7 rfl rfl rfl rfl rfl rfl rfl ⟨rfl, rfl, rfl, rfl, rfl⟩ rfl rfl rfl rfl rfl (by kernel_rfl) Try.func7 (by kernel_rfl)
    (of_decide_eq_true (by kernel_rfl)) (by unfold Func.isWrapper; first | (rw [if_pos (by decide +kernel)]; kernel_rfl) | (rw [if_neg (by decide +kernel)]; exact ⟨rfl, rfl⟩))
    (fun os started H enc _ => isaRight_lifted os started H enc)

#print axioms isaRight_holds

end Go.Proofs.Ytkgflipalefmfaa
