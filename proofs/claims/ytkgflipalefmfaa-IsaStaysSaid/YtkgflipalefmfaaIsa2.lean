/- Layer 2: which programs may be. -/
import Derived.Test.YtkgflipalefmfaaIsa
set_option linter.unusedSimpArgs false
set_option linter.unusedVariables false
namespace Go.Proofs.Ytkgflipalefmfaa
open Go.SX

structure InsN where
  op : Int
  a : Int
  b : Int
  c : Int
  k : Int
def InsN.d (i : InsN) : D := insD i.op i.a i.b i.c i.k
def InsN.Ok (i : InsN) : Prop := 0 ≤ i.k ∧ i.k ≤ 4294967295
def InsN.may (i : InsN) (many : Nat) : Bool := mayB i.op i.a i.b i.c i.k many
def progD (l : List InsN) : List D := l.map InsN.d
def IsProg (d : D) (l : List InsN) : Prop := (d = .sl (progD l) ∨ (d = .nil ∧ l = [])) ∧ (∀ i ∈ l, i.Ok) ∧ l.length ≤ maxLen
def lastOp (l : List InsN) : Int := (l.getLast?.map InsN.op).getD 0
def endsB (l : List InsN) : Bool := lastOp l == 16 || lastOp l == 13
def rightB (l : List InsN) : Bool := !(decide (l.length < 1)) && !(decide (64 < l.length)) && endsB l && l.all fun i => i.may l.length

theorem len_is {d : D} {l : List InsN} (h : IsProg d l) : Prim.run .len [d] = some (.int .i64 l.length) := by
  rcases h.1 with h | ⟨h, h'⟩
  · subst h; simp [Prim.run, progD]
  · subst h h'; rfl
theorem maxLen_is : maxLen = 9223372036854775807 ∨ maxLen ≤ 9223372036854775807 := by right; decide
theorem get_is {d : D} {l : List InsN} (h : IsProg d l) {i : Nat} (hi : i < l.length) : Prim.run .get [d, .int .i64 i] = some (l[i]).d := by
  rcases h.1 with h | ⟨h, h'⟩
  · subst h; simp [Prim.run, progD, hi]
  · subst h h'; simp at hi

theorem right_step (d : D) (l : List InsN) (h : IsProg d l) (y1 y2 y3 y4 y5 y6 y7 y8 y9 : D) (i : Nat) (hi : i < l.length) :
    EV T20L1 [d, y1, y2, y3, y4, y5, y6, y7, y8, y9, .int .i64 l.length, .int .i64 i] = if (l[i]).may l.length then some (.jmp 0 true [.int .i64 ((i + 1 : Nat) : Int)]) else some (.jmp 2 false [.int .i64 i]) := by
  have hm : maxLen ≤ 9223372036854775807 := by decide
  have hl := h.2.2
  have hlen := len_is h
  have hget := get_is h hi
  have hok := h.2.1 _ (List.getElem_mem hi)
  have hmay : CA 22 [(l[i]).d, .int .i64 l.length] = some [.bool ((l[i]).may l.length)] := may_is _ _ _ _ _ _ hok.1 hok.2 (by omega)
  have hlss : Prim.run (.bin .lss) [.int .i64 i, .int .i64 l.length] = some (.bool true) := by
    simp only [Prim.run, binD, binI, if_true]
    congr 2
    simp; omega
  have hadd : Prim.run (.bin .add) [.int .i64 i, .int .i64 1] = some (.int .i64 ((i + 1 : Nat) : Int)) := by
    simp only [Prim.run, binD, binI, if_true, wrapS64 (by omega : -9223372036854775808 ≤ (i : Int) + 1) (by omega)]
    rfl
  have hnot : ∀ b : Bool, Prim.run (.un .not) [.bool b] = some (.bool !b) := fun _ => rfl
  generalize (l[i]).d = x at hget hmay
  generalize ((i + 1 : Nat) : Int) = i1 at hadd ⊢
  cases hb : (l[i]).may l.length <;> rw [hb] at hmay <;>
    simp [T20L1, evL_prim, evL_ite, evL_jmp, evL_call, evL_sub, gets, At.get, hlen, hget, hmay, hlss, hadd, hnot]
theorem right_end (d n : D) (hn : Prim.run (.bin .lss) [n, n] = some (.bool false)) (y1 y2 y3 y4 y5 y6 y7 y8 y9 : D) : EV T20L1 [d, y1, y2, y3, y4, y5, y6, y7, y8, y9, n, n] = some (.jmp 1 false [n, .bool false]) := by
  simp [T20L1, evL_prim, evL_ite, evL_jmp, gets, At.get, hn]

theorem lss_self (k : IntKind) (n : Int) : Prim.run (.bin .lss) [.int k n, .int k n] = some (.bool false) := by simp [Prim.run, binD, binI]

theorem right_loop (d : D) (l : List InsN) (h : IsProg d l) (y1 y2 y3 y4 y5 y6 y7 y8 y9 : D) : ∀ (r i : Nat), i + r = l.length →
    (((l.drop i).all fun x => x.may l.length) = true → loopL cx 12 noC T20L1 [d, y1, y2, y3, y4, y5, y6, y7, y8, y9, .int .i64 l.length] [.int .i64 i] = some (.jmp 1 false [.int .i64 l.length, .bool false])) ∧
    (((l.drop i).all fun x => x.may l.length) = false → ∃ j : Nat, loopL cx 12 noC T20L1 [d, y1, y2, y3, y4, y5, y6, y7, y8, y9, .int .i64 l.length] [.int .i64 i] = some (.jmp 2 false [.int .i64 j]))
  | 0, i, hi => by
    have : i = l.length := by omega
    subst this
    refine ⟨fun _ => loop_off (E := [d, y1, y2, y3, y4, y5, y6, y7, y8, y9, _]) (vs := [_]) (right_end d _ (lss_self _ _) _ _ _ _ _ _ _ _ _) (by simp), fun hf => ?_⟩
    simp at hf
  | r + 1, i, hi => by
    have hlt : i < l.length := by omega
    obtain ⟨h1, h2⟩ := right_loop d l h y1 y2 y3 y4 y5 y6 y7 y8 y9 r (i + 1) (by omega)
    have hs := right_step d l h y1 y2 y3 y4 y5 y6 y7 y8 y9 i hlt
    have hd : l.drop i = l[i] :: l.drop (i + 1) := List.drop_eq_getElem_cons hlt
    rw [hd, List.all_cons]
    cases hm : (l[i]).may l.length with
    | true =>
      rw [hm, if_pos rfl] at hs
      rw [loop_on (E := [d, y1, y2, y3, y4, y5, y6, y7, y8, y9, _]) (vs := [_]) hs]
      simp only [Bool.true_and]
      exact ⟨h1, h2⟩
    | false =>
      rw [hm] at hs
      have hs : EV T20L1 [d, y1, y2, y3, y4, y5, y6, y7, y8, y9, .int .i64 l.length, .int .i64 i] = some (.jmp 2 false [.int .i64 i]) := hs
      simp only [Bool.false_and, Bool.false_eq_true, false_implies, true_and]
      exact fun _ => ⟨i, loop_off (E := [d, y1, y2, y3, y4, y5, y6, y7, y8, y9, _]) (vs := [_]) hs (by simp)⟩

end Go.Proofs.Ytkgflipalefmfaa
