/- Layer 2: lists of programs; the law IsaRight on data. -/
import Derived.Test.YtkgflipalefmfaaIsa4
set_option linter.unusedSimpArgs false
set_option linter.unusedVariables false
namespace Go.Proofs.Ytkgflipalefmfaa
open Go.SX

structure IsProgs (d : D) (xs : List D) (ps : List (List InsN)) : Prop where
  is : d = .sl xs ∨ (d = .nil ∧ xs = [])
  len : xs.length = ps.length
  each : ∀ i (h : i < xs.length) (h' : i < ps.length), IsProg xs[i] ps[i]
  max : xs.length ≤ maxLen
def allB (ps : List (List InsN)) : Bool := decide (ps.length ≥ 1) && decide (ps.length ≤ 4) && ps.all rightB
def shortB (ps : List (List InsN)) : Bool := !decide (ps.length > 6) && ps.all fun p => !decide (p.length > 80)

section
variable {d : D} {xs : List D} {ps : List (List InsN)}
theorem plen_is (h : IsProgs d xs ps) : Prim.run .len [d] = some (.int .i64 ps.length) := by
  rw [← h.len]
  rcases h.is with h | ⟨h, h'⟩
  · subst h; rfl
  · subst h h'; rfl
theorem pget_is (h : IsProgs d xs ps) {i : Nat} (hi : i < ps.length) : ∃ x, Prim.run .get [d, .int .i64 i] = some x ∧ IsProg x ps[i] := by
  have hi' : i < xs.length := by rw [h.len]; exact hi
  refine ⟨xs[i], ?_, h.each i hi' hi⟩
  rcases h.is with h | ⟨h, h'⟩
  · subst h; simp [Prim.run, hi']
  · subst h'; simp at hi'

theorem lss_lt (k : IntKind) {i n : Nat} (h : i < n) : Prim.run (.bin .lss) [.int k i, .int k n] = some (.bool true) := by
  rw [lss_is]
  exact congrArg (fun b => some (D.bool b)) (decide_eq_true (by omega))

theorem short_is (h : IsProgs d xs ps) : CA 19 [d] = some [.bool (shortB ps)] := by
  rw [call_of t19]
  have hm : maxLen ≤ 9223372036854775807 := by decide
  have hll := h.max
  rw [h.len] at hll
  have hlen := plen_is h
  have hgtr : Prim.run (.bin .gtr) [.int .i64 ps.length, .int .i64 6] = some (.bool (decide (ps.length > 6))) := by
    rw [gtr_is]
    exact congrArg (fun b => some (D.bool b)) (decide_eq_decide.2 (by omega))
  unfold shortB
  cases e1 : decide (ps.length > 6) with
  | true =>
    rw [e1] at hgtr
    simp [T19, evL_prim, evL_ite, evL_jmp, gets, At.get, hlen, hgtr]
  | false =>
    rw [e1] at hgtr
    have step : ∀ i (hi : i < ps.length), EV T19L1 [d, .int .i64 ps.length, .bool false, .int .i64 i] = if decide ((ps[i]).length > 80) then some (.jmp 2 false [.bool false]) else some (.jmp 0 true [.int .i64 ((i + 1 : Nat) : Int)]) := fun i hi => by
      obtain ⟨x, hx, hp⟩ := pget_is h hi
      have hl := len_is hp
      have hl2 := lss_lt .i64 hi
      have hadd := add1_is i ps.length hi (by omega)
      have hg : Prim.run (.bin .gtr) [.int .i64 (ps[i]).length, .int .i64 80] = some (.bool (decide ((ps[i]).length > 80))) := by
        rw [gtr_is]
        exact congrArg (fun b => some (D.bool b)) (decide_eq_decide.2 (by omega))
      generalize ((i + 1 : Nat) : Int) = i1 at hadd ⊢
      cases e : decide ((ps[i]).length > 80) <;> rw [e] at hg <;> simp [T19L1, evL_prim, evL_ite, evL_jmp, gets, At.get, hlen, hx, hl, hl2, hadd, hg]
    rcases all_or (fun i => if hi : i < ps.length then !decide ((ps[i]).length > 80) else true) ps.length with ha | ⟨i, hi, hf, ha⟩
    · have hloop : loopL cx 12 noC T19L1 [d, .int .i64 ps.length, .bool false] [.int .i64 0] = some (.jmp 1 false [.int .i64 ps.length, .int .i64 ps.length, .bool false]) := by
        have := loop_to (b := T19L1) (E := [d, .int .i64 ps.length, .bool false]) (fun m => [.int .i64 (m : Int)]) (i := 0) (j := ps.length) (by omega) fun m _ hm' => by
          have hs := step m hm'
          have hp := ha m hm'
          simp only [hm', dif_pos, Bool.not_eq_true'] at hp
          rw [hp] at hs
          exact hs
        refine this.trans ?_
        refine loop_off (E := [_, _, _]) (vs := [_]) ?_ (by simp)
        have hlss := lss_self .i64 (ps.length : Int)
        simp [T19L1, evL_prim, evL_ite, evL_jmp, gets, At.get, hlen, hlss]
      have hall : (ps.all fun p => !decide (p.length > 80)) = true := all_nat ps _ _ (fun i hi => by simp [hi]) ha
      rw [hall]
      simp [T19, evL_prim, evL_ite, evL_jmp, evL_sub, evL_loop, gets, At.get, hlen, hgtr, hloop, Res.up]
    · have hloop : loopL cx 12 noC T19L1 [d, .int .i64 ps.length, .bool false] [.int .i64 0] = some (.jmp 2 false [.bool false]) := by
        have := loop_to (b := T19L1) (E := [d, .int .i64 ps.length, .bool false]) (fun m => [.int .i64 (m : Int)]) (i := 0) (j := i) (by omega) fun m _ hm' => by
          have hs := step m (by omega)
          have hp := ha m hm'
          simp only [show m < ps.length by omega, dif_pos, Bool.not_eq_true'] at hp
          rw [hp] at hs
          exact hs
        refine this.trans ?_
        have hs := step i hi
        simp only [hi, dif_pos, Bool.not_eq_false'] at hf
        rw [hf, if_pos rfl] at hs
        exact loop_off (E := [_, _, _]) (vs := [_]) hs (by simp)
      have hall : (ps.all fun p => !decide (p.length > 80)) = false := any_nat ps _ hi (by simpa [hi] using hf)
      rw [hall]
      simp [T19, evL_prim, evL_ite, evL_jmp, evL_sub, evL_loop, gets, At.get, hlen, hgtr, hloop, Res.up]

theorem right35_is {x : D} {l : List InsN} (h : IsProg x l) : CA 35 [x] = some [.bool (!rightB l)] := by
  rw [call_of t35]
  have hr := right_is x l h
  simp [T35, evL_prim, evL_call, evL_jmp, gets, At.get, hr, not_is]

theorem all_is (h : IsProgs d xs ps) : CA 24 [d] = some [.bool (allB ps)] := by
  rw [call_of t24]
  have hm : maxLen ≤ 9223372036854775807 := by decide
  have hll := h.max
  rw [h.len] at hll
  have hlen := plen_is h
  have hge : Prim.run (.bin .geq) [.int .i64 ps.length, .int .i64 1] = some (.bool (decide (ps.length ≥ 1))) := by
    rw [geq_is]
    exact congrArg (fun b => some (D.bool b)) (decide_eq_decide.2 (by omega))
  have hle : Prim.run (.bin .leq) [.int .i64 ps.length, .int .i64 4] = some (.bool (decide (ps.length ≤ 4))) := by
    rw [leq_is]
    exact congrArg (fun b => some (D.bool b)) (decide_eq_decide.2 (by omega))
  unfold allB
  cases e1 : decide (ps.length ≥ 1) with
  | false =>
    rw [e1] at hge
    simp [T24, evL_prim, evL_ite, evL_jmp, evL_sub, gets, At.get, hlen, hge]
  | true =>
    rw [e1] at hge
    cases e2 : decide (ps.length ≤ 4) with
    | false =>
      rw [e2] at hle
      simp [T24, evL_prim, evL_ite, evL_jmp, evL_sub, gets, At.get, hlen, hge, hle]
    | true =>
      rw [e2] at hle
      have step : ∀ i (hi : i < ps.length) (y1 y2 y3 : D), EV T24L1 [d, y1, y2, y3, .int .i64 ps.length, .int .i64 i] = if rightB (ps[i]) then some (.jmp 0 true [.int .i64 ((i + 1 : Nat) : Int)]) else some (.jmp 2 false [.int .i64 i]) := fun i hi y1 y2 y3 => by
        obtain ⟨x, hx, hp⟩ := pget_is h hi
        have hr := right35_is hp
        have hl2 := lss_lt .i64 hi
        have hadd := add1_is i ps.length hi (by omega)
        generalize ((i + 1 : Nat) : Int) = i1 at hadd ⊢
        cases e : rightB (ps[i]) <;> rw [e] at hr <;> simp [T24L1, evL_prim, evL_ite, evL_jmp, evL_call, gets, At.get, hx, hr, hl2, hadd]
      have hge0 : Prim.run (.bin .geq) [.int .i64 (-1), .int .i64 0] = some (.bool false) := rfl
      rcases all_or (fun i => if hi : i < ps.length then rightB (ps[i]) else true) ps.length with ha | ⟨i, hi, hf, ha⟩
      · have hloop : loopL cx 12 noC T24L1 [d, .bool true, .int .i64 ps.length, .bool true, .int .i64 ps.length] [.int .i64 0] = some (.jmp 1 false [.int .i64 ps.length, .bool false]) := by
          have := loop_to (b := T24L1) (E := [d, .bool true, .int .i64 ps.length, .bool true, .int .i64 ps.length]) (fun m => [.int .i64 (m : Int)]) (i := 0) (j := ps.length) (by omega) fun m _ hm' => by
            have hs := step m hm' (.bool true) (.int .i64 ps.length) (.bool true)
            have hp := ha m hm'
            simp only [hm', dif_pos] at hp
            rw [hp] at hs
            exact hs
          refine this.trans ?_
          refine loop_off (E := [_, _, _, _, _]) (vs := [_]) ?_ (by simp)
          have hlss := lss_self .i64 (ps.length : Int)
          simp [T24L1, evL_prim, evL_ite, evL_jmp, gets, At.get, hlss]
        have hall : ps.all rightB = true := all_nat ps _ _ (fun i hi => by simp [hi]) ha
        rw [hall]
        simp [T24, evL_prim, evL_ite, evL_jmp, evL_sub, evL_loop, gets, At.get, hlen, hge, hle, hloop, Res.up, hge0, not_is]
      · have hloop : loopL cx 12 noC T24L1 [d, .bool true, .int .i64 ps.length, .bool true, .int .i64 ps.length] [.int .i64 0] = some (.jmp 2 false [.int .i64 i]) := by
          have := loop_to (b := T24L1) (E := [d, .bool true, .int .i64 ps.length, .bool true, .int .i64 ps.length]) (fun m => [.int .i64 (m : Int)]) (i := 0) (j := i) (by omega) fun m _ hm' => by
            have hs := step m (by omega) (.bool true) (.int .i64 ps.length) (.bool true)
            have hp := ha m hm'
            simp only [show m < ps.length by omega, dif_pos] at hp
            rw [hp] at hs
            exact hs
          refine this.trans ?_
          have hs := step i hi (.bool true) (.int .i64 ps.length) (.bool true)
          simp only [hi, dif_pos] at hf
          rw [hf] at hs
          exact loop_off (E := [_, _, _, _, _]) (vs := [_]) hs (by simp)
        have hge1 : Prim.run (.bin .geq) [.int .i64 i, .int .i64 0] = some (.bool true) := by rw [geq_is]; simp
        have hall : ps.all rightB = false := any_nat ps _ hi (by simpa [hi] using hf)
        rw [hall]
        simp [T24, evL_prim, evL_ite, evL_jmp, evL_sub, evL_loop, gets, At.get, hlen, hge, hle, hloop, Res.up, hge1, not_is]

end
end Go.Proofs.Ytkgflipalefmfaa
