/- Layer 2: programs that are right. -/
import Derived.Test.YtkgflipalefmfaaIsa2
set_option linter.unusedSimpArgs false
set_option linter.unusedVariables false
namespace Go.Proofs.Ytkgflipalefmfaa
open Go.SX

theorem last_is {d : D} {l : List InsN} (h : IsProg d l) (hl : 0 < l.length) : ∃ x : D, Prim.run .get [d, .int .i64 ((l.length : Int) - 1)] = some x ∧ Prim.run (.fld 0) [x] = some (.int .i64 (lastOp l)) := by
  have hi : l.length - 1 < l.length := by omega
  have hg := get_is h hi
  have e : ((l.length - 1 : Nat) : Int) = (l.length : Int) - 1 := by omega
  rw [e] at hg
  refine ⟨_, hg, ?_⟩
  have : lastOp l = (l[l.length - 1]).op := by
    unfold lastOp
    rw [List.getLast?_eq_getElem?, List.getElem?_eq_getElem hi]
    rfl
  rw [this]
  rfl

theorem right_is (d : D) (l : List InsN) (h : IsProg d l) : CA 20 [d] = some [.bool (rightB l)] := by
  rw [call_of t20]
  have hm : maxLen ≤ 9223372036854775807 := by decide
  have hll := h.2.2
  have hlen := len_is h
  have hlss : Prim.run (.bin .lss) [.int .i64 l.length, .int .i64 1] = some (.bool (decide (l.length < 1))) := by
    simp only [Prim.run, binD, binI, if_true]
    exact congrArg (fun b => some (D.bool b)) (decide_eq_decide.2 (by omega))
  have hgtr : Prim.run (.bin .gtr) [.int .i64 l.length, .int .i64 64] = some (.bool (decide (64 < l.length))) := by
    simp only [Prim.run, binD, binI, if_true]
    exact congrArg (fun b => some (D.bool b)) (decide_eq_decide.2 (by omega))
  unfold rightB
  cases e1 : decide (l.length < 1) with
  | true =>
    rw [e1] at hlss
    simp [T20, evL_prim, evL_ite, evL_jmp, evL_sub, gets, At.get, hlen, hlss]
  | false =>
    rw [e1] at hlss
    cases e2 : decide (64 < l.length) with
    | true =>
      rw [e2] at hgtr
      simp [T20, evL_prim, evL_ite, evL_jmp, evL_sub, gets, At.get, hlen, hlss, hgtr]
    | false =>
      rw [e2] at hgtr
      simp only [decide_eq_false_iff_not] at e1 e2
      obtain ⟨x, hx1, hx2⟩ := last_is h (by omega)
      have hsub : Prim.run (.bin .sub) [.int .i64 l.length, .int .i64 1] = some (.int .i64 ((l.length : Int) - 1)) := by
        simp only [Prim.run, binD, binI, if_true, wrapS64 (by omega : -9223372036854775808 ≤ (l.length : Int) - 1) (by omega)]
      have heq : ∀ a b : Int, Prim.run (.bin .eql) [.int .i64 a, .int .i64 b] = some (.bool (a == b)) := fun a b => by simp [Prim.run, binD, binI]
      have hnot : ∀ b : Bool, Prim.run (.un .not) [.bool b] = some (.bool !b) := fun _ => rfl
      have hz : ((0 : Nat) : Int) = 0 := rfl
      unfold endsB
      have hge0 : Prim.run (.bin .geq) [.int .i64 (-1), .int .i64 0] = some (.bool false) := rfl
      have hloop := fun y1 y2 y3 y4 y5 y6 y7 y8 y9 => right_loop d l h y1 y2 y3 y4 y5 y6 y7 y8 y9 l.length 0 (by omega)
      simp only [List.drop_zero, hz] at hloop
      cases e3 : (lastOp l == 16) with
      | false =>
        cases e4 : (lastOp l == 13) with
        | false => simp [T20, evL_prim, evL_ite, evL_jmp, evL_sub, gets, At.get, hlen, hlss, hgtr, hx1, hx2, hsub, heq, e3, e4]
        | true =>
          cases e5 : l.all fun x => x.may l.length with
          | true =>
            have hloop := fun y1 y2 y3 y4 y5 y6 y7 y8 y9 => (hloop y1 y2 y3 y4 y5 y6 y7 y8 y9).1 e5
            simp [T20, evL_prim, evL_ite, evL_jmp, evL_sub, evL_loop, gets, At.get, hlen, hlss, hgtr, hx1, hx2, hsub, heq, e3, e4, hloop, Res.up, hnot, hge0]
          | false =>
            obtain ⟨j, hj⟩ := (hloop (.int .i64 l.length) (.bool false) (.bool false) (.int .i64 l.length) (.int .i64 ((l.length : Int) - 1)) x (.int .i64 (lastOp l)) (.bool true) (.bool false)).2 e5
            have hge : Prim.run (.bin .geq) [.int .i64 j, .int .i64 0] = some (.bool true) := by simp [Prim.run, binD, binI]
            simp [T20, evL_prim, evL_ite, evL_jmp, evL_sub, evL_loop, gets, At.get, hlen, hlss, hgtr, hx1, hx2, hsub, heq, e3, e4, hj, Res.up, hnot, hge]
      | true =>
        cases e5 : l.all fun x => x.may l.length with
        | true =>
          have hloop := fun y1 y2 y3 y4 y5 y6 y7 y8 y9 => (hloop y1 y2 y3 y4 y5 y6 y7 y8 y9).1 e5
          simp [T20, evL_prim, evL_ite, evL_jmp, evL_sub, evL_loop, gets, At.get, hlen, hlss, hgtr, hx1, hx2, hsub, heq, e3, hloop, Res.up, hnot, hge0]
        | false =>
          obtain ⟨j, hj⟩ := (hloop (.int .i64 l.length) (.bool false) (.bool false) (.int .i64 l.length) (.int .i64 ((l.length : Int) - 1)) x (.int .i64 (lastOp l)) (.bool true) (.bool true)).2 e5
          have hge : Prim.run (.bin .geq) [.int .i64 j, .int .i64 0] = some (.bool true) := by simp [Prim.run, binD, binI]
          simp [T20, evL_prim, evL_ite, evL_jmp, evL_sub, evL_loop, gets, At.get, hlen, hlss, hgtr, hx1, hx2, hsub, heq, e3, hj, Res.up, hnot, hge]

end Go.Proofs.Ytkgflipalefmfaa
