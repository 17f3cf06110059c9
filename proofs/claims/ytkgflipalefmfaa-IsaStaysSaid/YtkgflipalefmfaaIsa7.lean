/- Layer 2: the law IsaStays on data. -/
import Derived.Test.YtkgflipalefmfaaIsa6
set_option linter.unusedSimpArgs false
set_option linter.unusedVariables false
namespace Go.Proofs.Ytkgflipalefmfaa
open Go.SX

theorem stays_step (d : D) (l : List InsN) (h : IsProg d l) (hr : rightB l = true) (y1 y2 y3 y4 y5 : D) (i : Nat) (hi : i < l.length) :
    EV T9L1 [d, y1, y2, y3, y4, y5, .int .i64 i] = some (.jmp 0 true [.int .i64 ((i + 1 : Nat) : Int)]) := by
  have hm : maxLen ≤ 9223372036854775807 := by decide
  have hl := h.2.2
  have hlen := len_is h
  have hget := get_is h hi
  have hlss := lss_lt .i64 hi
  have hadd := add1_is i l.length hi (by omega)
  have hok := h.2.1 _ (List.getElem_mem hi)
  unfold rightB at hr
  simp only [Bool.and_eq_true] at hr
  have hmay : (l[i]).may l.length = true := by
    have := hr.2
    rw [List.all_eq_true] at this
    exact this _ (List.getElem_mem hi)
  have hends := hr.1.2
  have hlast : ((l[i]).op == 13) = false → ((l[i]).op == 16) = false → i + 1 < l.length := fun h13 h16 => by
    rcases Nat.lt_or_ge (i + 1) l.length with h' | h'
    · exact h'
    · exfalso
      have e : l.length - 1 = i := by omega
      have : lastOp l = (l[i]).op := by
        unfold lastOp
        rw [List.getLast?_eq_getElem?, e, List.getElem?_eq_getElem hi]
        rfl
      unfold endsB at hends
      rw [this, h13, h16] at hends
      cases hends
  have hk : ((l[i]).op == 13 || (l[i]).op == 14) = true → (l[i]).k < l.length := fun hj => by
    unfold InsN.may mayB uK at hmay
    simp only [Bool.and_eq_true] at hmay
    have h2 := hmay.2
    rw [Bool.or_assoc, hj, Bool.or_true, if_pos rfl] at h2
    unfold goalB at h2
    simp only [Bool.or_eq_true, Bool.and_eq_true, decide_eq_true_eq, beq_iff_eq] at h2 hj
    rcases h2 with h2 | h2
    · rw [h2] at hj
      omega
    · exact h2.2
  have h0 : Prim.run (.fld 0) [(l[i]).d] = some (.int .i64 (l[i]).op) := rfl
  have h4 : Prim.run (.fld 4) [(l[i]).d] = some (.int .u32 (l[i]).k) := rfl
  have hc : Prim.run (.conv .i64) [.int .u32 (l[i]).k] = some (.int .i64 (l[i]).k) := by
    have h1 := hok.1
    have h2 := hok.2
    simp only [Prim.run, wrapS64 (by omega : -9223372036854775808 ≤ (l[i]).k) (by omega)]
  have hn : ∀ a b : Int, Prim.run (.bin .neq) [.int .i64 a, .int .i64 b] = some (.bool (!(a == b))) := fun a b => by rw [neq_is]; rfl
  generalize (l[i]).d = x at hget h0 h4
  have hgeI : ((l[i]).op == 13) = false → ((l[i]).op == 16) = false → Prim.run (.bin .geq) [.int .i64 ((i + 1 : Nat) : Int), .int .i64 l.length] = some (.bool false) := fun a b => by
    have := hlast a b
    rw [geq_is]
    exact congrArg (fun b => some (D.bool b)) (decide_eq_false (by omega))
  have hgeK : ((l[i]).op == 13 || (l[i]).op == 14) = true → Prim.run (.bin .geq) [.int .i64 (l[i]).k, .int .i64 l.length] = some (.bool false) := fun a => by
    have := hk a
    rw [geq_is]
    exact congrArg (fun b => some (D.bool b)) (decide_eq_false (by omega))
  have he13 := eql_is .i64 (l[i]).op 13
  have he14 := eql_is .i64 (l[i]).op 14
  have hn13 := hn (l[i]).op 13
  have hn16 := hn (l[i]).op 16
  generalize hi1 : ((i + 1 : Nat) : Int) = i1 at hadd hgeI ⊢
  generalize (l[i]).op = op at *
  generalize (l[i]).k = k at *
  cases e13 : (op == 13) with
  | true =>
    rw [e13] at he13 hn13
    have hg := hgeK (by rw [e13]; rfl)
    simp [T9L1, evL_prim, evL_ite, evL_jmp, evL_sub, gets, At.get, hlen, hget, hlss, hadd, h0, h4, hc, he13, hn13, hg]
  | false =>
    rw [e13] at he13 hn13
    cases e14 : (op == 14) with
    | true =>
      rw [e14] at he14
      have hg := hgeK (by rw [e14, e13]; rfl)
      have e16 : (op == 16) = false := by
        simp only [beq_iff_eq] at e14
        rw [e14]; rfl
      rw [e16] at hn16
      have hg2 := hgeI e13 e16
      simp [T9L1, evL_prim, evL_ite, evL_jmp, evL_sub, gets, At.get, hlen, hget, hlss, hadd, h0, h4, hc, he13, he14, hn13, hn16, hg, hg2]
    | false =>
      rw [e14] at he14
      cases e16 : (op == 16) with
      | true =>
        rw [e16] at hn16
        simp [T9L1, evL_prim, evL_ite, evL_jmp, evL_sub, gets, At.get, hlen, hget, hlss, hadd, h0, he13, he14, hn13, hn16]
      | false =>
        rw [e16] at hn16
        have hg2 := hgeI e13 e16
        simp [T9L1, evL_prim, evL_ite, evL_jmp, evL_sub, gets, At.get, hlen, hget, hlss, hadd, h0, he13, he14, hn13, hn16, hg2]

theorem isa_stays (d : D) (l : List InsN) (h : IsProg d l) : CA 9 [d] = some [.bool true] := by
  rw [call_of t9]
  have hm : maxLen ≤ 9223372036854775807 := by decide
  have hll := h.2.2
  have hlen := len_is h
  have hr := right_is d l h
  have hgtr : Prim.run (.bin .gtr) [.int .i64 l.length, .int .i64 80] = some (.bool (decide (80 < l.length))) := by
    rw [gtr_is]
    exact congrArg (fun b => some (D.bool b)) (decide_eq_decide.2 (by omega))
  cases e : decide (80 < l.length) with
  | true =>
    rw [e] at hgtr
    simp [T9, evL_prim, evL_ite, evL_jmp, evL_call, evL_sub, gets, At.get, awake2, hlen, hgtr, not_is]
  | false =>
    rw [e] at hgtr
    cases er : rightB l with
    | false =>
      rw [er] at hr
      simp [T9, evL_prim, evL_ite, evL_jmp, evL_call, evL_sub, gets, At.get, awake2, hlen, hgtr, hr, not_is]
    | true =>
      rw [er] at hr
      have hloop : loopL cx 12 noC T9L1 [d, .bool true, .bool false, .int .i64 l.length, .bool false, .bool false] [.int .i64 0] = some (.jmp 1 false [.int .i64 l.length, .int .i64 l.length, .bool false]) := by
        have := loop_to (b := T9L1) (E := [d, .bool true, .bool false, .int .i64 l.length, .bool false, .bool false]) (fun m => [.int .i64 (m : Int)]) (i := 0) (j := l.length) (by omega) fun m _ hi => stays_step d l h er _ _ _ _ _ m hi
        refine this.trans ?_
        refine loop_off (E := [_, _, _, _, _, _]) (vs := [_]) ?_ (by simp)
        have hlss := lss_self .i64 (l.length : Int)
        simp [T9L1, evL_prim, evL_ite, evL_jmp, gets, At.get, hlen, hlss]
      simp [T9, evL_prim, evL_ite, evL_jmp, evL_call, evL_sub, evL_loop, gets, At.get, awake2, hlen, hgtr, hr, hloop, Res.up, not_is]

end Go.Proofs.Ytkgflipalefmfaa
