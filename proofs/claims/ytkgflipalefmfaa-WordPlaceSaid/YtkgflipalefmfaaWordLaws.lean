/- 'WordRight', 'WordRound' and 'WordPlace' tell true whatever comes in, and their arguments read as they did. No condition. -/
import Derived.Test.YtkgflipalefmfaaRows
import Derived.Test.YtkgflipalefmfaaWord6
import Derived.Test.YtkgflipalefmfaaWordSums
namespace Go.Proofs.Ytkgflipalefmfaa
open Go.SX

theorem wordRight_law (Ds : List D) (h : WtL (paramTys cx Try.f3) Ds) : ∃ k d, callF cx k 12 noC d 3 Ds = some [.bool true] := by
  have h : WtL [.int .i64, .int .u32, .int .u32, .int .i64, .sl (.int .u8)] Ds := h
  obtain ⟨d1, l1, rfl, h1, h⟩ := h.toCons
  obtain ⟨d2, l2, rfl, h2, h⟩ := h.toCons
  obtain ⟨d3, l3, rfl, h3, h⟩ := h.toCons
  obtain ⟨d4, l4, rfl, h4, h⟩ := h.toCons
  obtain ⟨d5, l5, rfl, h5, h⟩ := h.toCons
  obtain rfl := h.toNil
  obtain ⟨op, rfl, _⟩ := h1.toInt
  obtain ⟨x, rfl, hx⟩ := nat_of h2 (m := 4294967295) rfl rfl
  obtain ⟨y, rfl, hy⟩ := nat_of h3 (m := 4294967295) rfl rfl
  obtain ⟨w, rfl, hw1, hw2⟩ := h4.toInt
  obtain ⟨bs, hd, hb, _⟩ := bytes_of h5
  exact (callL_some cx 12 noC).1 (word_right op x y (by omega) (by omega) w hw1 hw2 d5 bs hd hb)

theorem wordRound_law (Ds : List D) (h : WtL (paramTys cx Try.f4) Ds) : ∃ k d, callF cx k 12 noC d 4 Ds = some [.bool true] := by
  have h : WtL [.int .u32, .int .u32] Ds := h
  obtain ⟨d1, l1, rfl, h1, h⟩ := h.toCons
  obtain ⟨d2, l2, rfl, h2, h⟩ := h.toCons
  obtain rfl := h.toNil
  obtain ⟨x, rfl, hx⟩ := nat_of h1 (m := 4294967295) rfl rfl
  obtain ⟨y, rfl, hy⟩ := nat_of h2 (m := 4294967295) rfl rfl
  exact (callL_some cx 12 noC).1 (word_round x y (by omega) (by omega))

theorem wordPlace_law (Ds : List D) (h : WtL (paramTys cx Try.f5) Ds) : ∃ k d, callF cx k 12 noC d 5 Ds = some [.bool true] := by
  have h : WtL [.int .u32, .int .u8] Ds := h
  obtain ⟨d1, l1, rfl, h1, h⟩ := h.toCons
  obtain ⟨d2, l2, rfl, h2, h⟩ := h.toCons
  obtain rfl := h.toNil
  obtain ⟨x, rfl, hx⟩ := nat_of h1 (m := 4294967295) rfl rfl
  obtain ⟨w, rfl, hw⟩ := nat_of h2 (m := 255) rfl rfl
  exact (callL_some cx 12 noC).1 (word_place x w (by omega) (by omega))

theorem wordRight_lifted (os : Os) (started : os.Started) (H : Type) (enc : TypeId × Value → H) :
    ReturnsInHanded {} Try.checked os 3 .any (Rows.wordRightSpec.pre6 enc Try.prog Try.f3 Rows.wordRightRow.domain false) (Rows.wordRightSpec.post enc Try.prog Try.f3 false true false false) :=
  lift_true (cx := cx) (C := Try.checked) rfl tyOk mixed noC_ok 12 own laidOut started (by kernel_rfl) Try.func3 (by kernel_rfl) (by kernel_rfl) (by kernel_rfl) (tb := 4) rfl Try.underlying4 rfl rfl
    (fun ds h => by
      have h : ds.length = 5 := h
      match ds, h with
      | [_, _, _, _, _], _ => rfl) wordRight_law
    (ChangeSpec.witness6 (enc := enc) (C := Try.checked) false ⟨#[], #[.int .i64 0, .int .u32 0, .int .u32 0, .int .i64 0, .slice none 0 0], []⟩ 8 (by kernel_rfl) (by kernel_rfl) (by kernel_rfl) (by kernel_rfl))

theorem wordRight_holds : Rows.WordRightSaid :=
  OpenClaim.holds_of_wide 3 Try.f3 rfl rfl rfl rfl rfl rfl rfl ⟨rfl, rfl, rfl, rfl, rfl⟩ rfl rfl rfl rfl rfl (by kernel_rfl) Try.func3 (by kernel_rfl)
    (of_decide_eq_true (by kernel_rfl)) (by unfold Func.isWrapper; first | (rw [if_pos (by decide +kernel)]; kernel_rfl) | (rw [if_neg (by decide +kernel)]; exact ⟨rfl, rfl⟩))
    (fun os started H enc _ => wordRight_lifted os started H enc)

#print axioms wordRight_holds

theorem wordRound_lifted (os : Os) (started : os.Started) (H : Type) (enc : TypeId × Value → H) :
    ReturnsInHanded {} Try.checked os 4 .any (Rows.wordRoundSpec.pre6 enc Try.prog Try.f4 Rows.wordRoundRow.domain false) (Rows.wordRoundSpec.post enc Try.prog Try.f4 false true false false) :=
  lift_true (cx := cx) (C := Try.checked) rfl tyOk mixed noC_ok 12 own laidOut started (by kernel_rfl) Try.func4 (by kernel_rfl) (by kernel_rfl) (by kernel_rfl) (tb := 4) rfl Try.underlying4 rfl rfl
    (fun ds h => by
      have h : ds.length = 2 := h
      match ds, h with
      | [_, _], _ => rfl) wordRound_law
    (ChangeSpec.witness6 (enc := enc) (C := Try.checked) false ⟨#[], #[.int .u32 0, .int .u32 0], []⟩ 8 (by kernel_rfl) (by kernel_rfl) (by kernel_rfl) (by kernel_rfl))

theorem wordRound_holds : Rows.WordRoundSaid :=
  OpenClaim.holds_of_wide 4 Try.f4 rfl rfl rfl rfl rfl rfl rfl ⟨rfl, rfl, rfl, rfl, rfl⟩ rfl rfl rfl rfl rfl (by kernel_rfl) Try.func4 (by kernel_rfl)
    (of_decide_eq_true (by kernel_rfl)) (by unfold Func.isWrapper; first | (rw [if_pos (by decide +kernel)]; kernel_rfl) | (rw [if_neg (by decide +kernel)]; exact ⟨rfl, rfl⟩))
    (fun os started H enc _ => wordRound_lifted os started H enc)

#print axioms wordRound_holds

theorem wordPlace_lifted (os : Os) (started : os.Started) (H : Type) (enc : TypeId × Value → H) :
    ReturnsInHanded {} Try.checked os 5 .any (Rows.wordPlaceSpec.pre6 enc Try.prog Try.f5 Rows.wordPlaceRow.domain false) (Rows.wordPlaceSpec.post enc Try.prog Try.f5 false true false false) :=
  lift_true (cx := cx) (C := Try.checked) rfl tyOk mixed noC_ok 12 own laidOut started (by kernel_rfl) Try.func5 (by kernel_rfl) (by kernel_rfl) (by kernel_rfl) (tb := 4) rfl Try.underlying4 rfl rfl
    (fun ds h => by
      have h : ds.length = 2 := h
      match ds, h with
      | [_, _], _ => rfl) wordPlace_law
    (ChangeSpec.witness6 (enc := enc) (C := Try.checked) false ⟨#[], #[.int .u32 0, .int .u8 0], []⟩ 8 (by kernel_rfl) (by kernel_rfl) (by kernel_rfl) (by kernel_rfl))

theorem wordPlace_holds : Rows.WordPlaceSaid :=
  OpenClaim.holds_of_wide 5 Try.f5 rfl rfl rfl rfl rfl rfl rfl ⟨rfl, rfl, rfl, rfl, rfl⟩ rfl rfl rfl rfl rfl (by kernel_rfl) Try.func5 (by kernel_rfl)
    (of_decide_eq_true (by kernel_rfl)) (by unfold Func.isWrapper; first | (rw [if_pos (by decide +kernel)]; kernel_rfl) | (rw [if_neg (by decide +kernel)]; exact ⟨rfl, rfl⟩))
    (fun os started H enc _ => wordPlace_lifted os started H enc)

#print axioms wordPlace_holds

end Go.Proofs.Ytkgflipalefmfaa
