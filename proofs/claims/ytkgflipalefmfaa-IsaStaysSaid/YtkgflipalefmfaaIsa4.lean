/- Layer 2: the document's programs, and lists of programs. -/
import Derived.Test.YtkgflipalefmfaaIsa3
set_option linter.unusedSimpArgs false
set_option linter.unusedVariables false
namespace Go.Proofs.Ytkgflipalefmfaa
open Go.SX

theorem loop_to {b : Tree} {E : List D} (st : Nat → List D) {i : Nat} : ∀ {j : Nat}, i ≤ j → (∀ m, i ≤ m → m < j → EV b (E ++ st m) = some (.jmp 0 true (st (m + 1)))) → loopL cx 12 noC b E (st i) = loopL cx 12 noC b E (st j)
  | j, hij, h => by
    rcases Nat.eq_or_lt_of_le hij with e | hlt
    · subst e; rfl
    · obtain ⟨j', rfl⟩ : ∃ j', j = j' + 1 := ⟨j - 1, by omega⟩
      rw [loop_to st (j := j') (by omega) (fun m h1 h2 => h m h1 (by omega))]
      exact loop_on (h j' (by omega) (by omega))

/-- All, or the first one that isn't. -/
theorem all_or (p : Nat → Bool) : ∀ n : Nat, (∀ i, i < n → p i = true) ∨ ∃ i, i < n ∧ p i = false ∧ ∀ j, j < i → p j = true
  | 0 => .inl fun i h => by omega
  | n + 1 => by
    rcases all_or p n with h | ⟨i, h1, h2, h3⟩
    · cases hp : p n with
      | true =>
        refine .inl fun i hi => ?_
        rcases Nat.lt_succ_iff_lt_or_eq.1 hi with h' | h'
        · exact h i h'
        · rw [h']; exact hp
      | false => exact .inr ⟨n, by omega, hp, h⟩
    · exact .inr ⟨i, by omega, h2, h3⟩
theorem all_nat {α : Type} (l : List α) (q : α → Bool) (p : Nat → Bool) (hp : ∀ i (h : i < l.length), p i = q l[i]) (h : ∀ i, i < l.length → p i = true) : l.all q = true := by
  rw [List.all_eq_true]
  intro x hx
  obtain ⟨i, hi, e⟩ := List.getElem_of_mem hx
  rw [← e, ← hp i hi]
  exact h i hi
theorem any_nat {α : Type} (l : List α) (q : α → Bool) {i : Nat} (h : i < l.length) (hq : q l[i] = false) : l.all q = false := by
  rw [List.all_eq_false]
  exact ⟨l[i], List.getElem_mem h, by simp [hq]⟩

theorem eql_is (k : IntKind) (a b : Int) : Prim.run (.bin .eql) [.int k a, .int k b] = some (.bool (a == b)) := by simp [Prim.run, binD, binI]
theorem neq_is (k : IntKind) (a b : Int) : Prim.run (.bin .neq) [.int k a, .int k b] = some (.bool (a != b)) := by simp [Prim.run, binD, binI]
theorem lss_is (k : IntKind) (a b : Int) : Prim.run (.bin .lss) [.int k a, .int k b] = some (.bool (decide (a < b))) := by simp [Prim.run, binD, binI]
theorem leq_is (k : IntKind) (a b : Int) : Prim.run (.bin .leq) [.int k a, .int k b] = some (.bool (decide (a ≤ b))) := by simp [Prim.run, binD, binI]
theorem gtr_is (k : IntKind) (a b : Int) : Prim.run (.bin .gtr) [.int k a, .int k b] = some (.bool (decide (a > b))) := by simp [Prim.run, binD, binI]
theorem geq_is (k : IntKind) (a b : Int) : Prim.run (.bin .geq) [.int k a, .int k b] = some (.bool (decide (a ≥ b))) := by simp [Prim.run, binD, binI]
theorem not_is (b : Bool) : Prim.run (.un .not) [.bool b] = some (.bool !b) := rfl
theorem eqlB_is (a b : Bool) : Prim.run (.bin .eql) [.bool a, .bool b] = some (.bool (a == b)) := rfl
theorem neqB_is (a b : Bool) : Prim.run (.bin .neq) [.bool a, .bool b] = some (.bool (!(a == b))) := rfl
theorem add1_is (i n : Nat) (h : i < n) (hn : n ≤ 9223372036854775807) : Prim.run (.bin .add) [.int .i64 i, .int .i64 1] = some (.int .i64 ((i + 1 : Nat) : Int)) := by
  simp only [Prim.run, binD, binI, if_true, wrapS64 (by omega : -9223372036854775808 ≤ (i : Int) + 1) (by omega)]
  rfl
theorem sub1_is (n : Nat) (hn : n ≤ 9223372036854775807) : Prim.run (.bin .sub) [.int .i64 n, .int .i64 1] = some (.int .i64 ((n : Int) - 1)) := by
  simp only [Prim.run, binD, binI, if_true, wrapS64 (by omega : -9223372036854775808 ≤ (n : Int) - 1) (by omega)]

theorem refright_step (d : D) (l : List InsN) (h : IsProg d l) (y1 y2 y3 : D) (i : Nat) (hi : i < l.length) :
    EV T21L1 [d, y1, y2, y3, .int .i64 i] = if (l[i]).may l.length then some (.jmp 0 true [.int .i64 ((i + 1 : Nat) : Int)]) else some (.jmp 2 false [.bool false]) := by
  have hm : maxLen ≤ 9223372036854775807 := by decide
  have hl := h.2.2
  have hlen := len_is h
  have hget := get_is h hi
  have hok := h.2.1 _ (List.getElem_mem hi)
  have hmay : CA 23 [(l[i]).d, .int .i64 l.length] = some [.bool ((l[i]).may l.length)] := refmay_is _ _ _ _ _ _ hok.1 hok.2
  have hlt : decide ((i : Int) < (l.length : Int)) = true := by simp; omega
  have hadd := add1_is i l.length hi (by omega)
  generalize (l[i]).d = x at hget hmay
  generalize ((i + 1 : Nat) : Int) = i1 at hadd ⊢
  have hlss := lss_is .i64 (i : Int) (l.length : Int)
  rw [hlt] at hlss
  cases hb : (l[i]).may l.length <;> rw [hb] at hmay <;>
    simp [T21L1, evL_prim, evL_ite, evL_jmp, evL_call, gets, At.get, hlen, hget, hmay, hlss, hadd, not_is]
theorem refright_end (d : D) (l : List InsN) (h : IsProg d l) (y1 y2 y3 : D) : EV T21L1 [d, y1, y2, y3, .int .i64 l.length] = some (.jmp 1 false [.int .i64 l.length, .int .i64 l.length, .bool false]) := by
  have hlen := len_is h
  have hlss := lss_self .i64 (l.length : Int)
  simp [T21L1, evL_prim, evL_ite, evL_jmp, gets, At.get, hlen, hlss]

theorem refright_is (d : D) (l : List InsN) (h : IsProg d l) : CA 21 [d] = some [.bool (rightB l)] := by
  rw [call_of t21]
  have hm : maxLen ≤ 9223372036854775807 := by decide
  have hll := h.2.2
  have hlen := len_is h
  have heq : Prim.run (.bin .eql) [.int .i64 l.length, .int .i64 0] = some (.bool (decide (l.length < 1))) := by
    rw [eql_is]
    refine congrArg (fun b => some (D.bool b)) ?_
    cases h0 : decide (l.length < 1) <;> simp at h0 ⊢ <;> exact h0
  have hgtr : Prim.run (.bin .gtr) [.int .i64 l.length, .int .i64 64] = some (.bool (decide (64 < l.length))) := by
    rw [gtr_is]
    exact congrArg (fun b => some (D.bool b)) (decide_eq_decide.2 (by omega))
  unfold rightB
  cases e1 : decide (l.length < 1) with
  | true =>
    rw [e1] at heq
    simp [T21, evL_prim, evL_ite, evL_jmp, evL_sub, gets, At.get, hlen, heq]
  | false =>
    rw [e1] at heq
    cases e2 : decide (64 < l.length) with
    | true =>
      rw [e2] at hgtr
      simp [T21, evL_prim, evL_ite, evL_jmp, evL_sub, gets, At.get, hlen, heq, hgtr]
    | false =>
      rw [e2] at hgtr
      simp only [decide_eq_false_iff_not] at e1 e2
      obtain ⟨x, hx1, hx2⟩ := last_is h (by omega)
      have hsub := sub1_is l.length (by omega)
      have hl := eql_is .i64 (lastOp l) 16
      have hl2 := eql_is .i64 (lastOp l) 13
      rcases all_or (fun i => if hi : i < l.length then (l[i]).may l.length else true) l.length with ha | ⟨i, hi, hf, ha⟩
      · have hloop : loopL cx 12 noC T21L1 [d, .int .i64 l.length, .bool false, .bool false] [.int .i64 0] = some (.jmp 1 false [.int .i64 l.length, .int .i64 l.length, .bool false]) := by
          have := loop_to (b := T21L1) (E := [d, .int .i64 l.length, .bool false, .bool false]) (fun m => [.int .i64 (m : Int)]) (i := 0) (j := l.length) (by omega) fun m _ hm' => by
            have hs := refright_step d l h (.int .i64 l.length) (.bool false) (.bool false) m hm'
            have hp := ha m hm'
            simp only [hm', dif_pos] at hp
            rw [hp, if_pos rfl] at hs
            exact hs
          refine this.trans ?_
          exact loop_off (E := [_, _, _, _]) (vs := [_]) (refright_end d l h _ _ _) (by simp)
        have hall : (l.all fun i => i.may l.length) = true := all_nat l _ _ (fun i hi => by simp [hi]) ha
        unfold endsB
        cases e3 : (lastOp l == 16) <;> rw [e3] at hl <;> simp [T21, evL_prim, evL_ite, evL_jmp, evL_sub, evL_loop, gets, At.get, hlen, heq, hgtr, hloop, Res.up, hx1, hx2, hsub, hl, hl2, hall]
      · have hloop : loopL cx 12 noC T21L1 [d, .int .i64 l.length, .bool false, .bool false] [.int .i64 0] = some (.jmp 2 false [.bool false]) := by
          have := loop_to (b := T21L1) (E := [d, .int .i64 l.length, .bool false, .bool false]) (fun m => [.int .i64 (m : Int)]) (i := 0) (j := i) (by omega) fun m _ hm' => by
            have hs := refright_step d l h (.int .i64 l.length) (.bool false) (.bool false) m (by omega)
            have hp := ha m hm'
            simp only [show m < l.length by omega, dif_pos] at hp
            rw [hp, if_pos rfl] at hs
            exact hs
          refine this.trans ?_
          have hs := refright_step d l h (.int .i64 l.length) (.bool false) (.bool false) i hi
          simp only [hi, dif_pos] at hf
          rw [hf] at hs
          exact loop_off (E := [_, _, _, _]) (vs := [_]) hs (by simp)
        have hall : (l.all fun i => i.may l.length) = false := any_nat l _ hi (by simpa [hi] using hf)
        simp [T21, evL_prim, evL_ite, evL_jmp, evL_sub, evL_loop, gets, At.get, hlen, heq, hgtr, hloop, Res.up, hall]

end Go.Proofs.Ytkgflipalefmfaa
