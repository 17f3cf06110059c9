/- Layer 9: the law DirecOne on typed data. -/
import Derived.Test.YtklkpogdghiagaaP09b
import Derived.Test.YtklkpogdghiagaaD09n4
set_option linter.unusedSimpArgs false
set_option linter.unusedVariables false
namespace Go.Proofs.Ytklkpogdghiagaa
open Go.SX

theorem mayB_iff {e : Entry} {c : Int} : mayB e c = true ↔ (1 ≤ c ∧ c ≤ 4 ∧ ((Entry.Share e).length : Int) = c ∧ 0 ≤ Entry.Owner e ∧ Entry.Owner e ≤ c) ∧ (Entry.Owner e = 0 ∨ (Entry.Share e)[(Entry.Owner e - 1).toNat]? ≠ some true) := by
  unfold mayB
  simp only [Bool.and_eq_true, Bool.or_eq_true, decide_eq_true_eq]
theorem hasB_of {e : Entry} {n k : Int} (h : mayB e n = true) (h0 : 0 ≤ k) (hk : k < n) : hasB e k = true := by
  have := (mayB_iff.1 h).1.2.2.1
  unfold hasB
  rw [this, h]
  simp [h0, hk]

theorem othersN_mem {l : List Bool} {n : Int} {x : Int} : ∀ {k : Nat}, x ∈ othersN l n k → ∃ j : Nat, x = j ∧ j < k ∧ l[j]? = some true ∧ (j : Int) ≠ n
  | 0, h => by simp [othersN] at h
  | k + 1, h => by
    simp only [othersN] at h
    split at h
    · rename_i hc
      rcases List.mem_append.1 h with h | h
      · obtain ⟨j, h1, h2, h3, h4⟩ := othersN_mem h
        exact ⟨j, h1, by omega, h3, h4⟩
      · rw [List.mem_singleton] at h
        exact ⟨k, h, by omega, hc.1, hc.2⟩
    · obtain ⟨j, h1, h2, h3, h4⟩ := othersN_mem h
      exact ⟨j, h1, by omega, h3, h4⟩
theorem othersN_sorted {l : List Bool} {n : Int} : ∀ {k : Nat}, (othersN l n k).Pairwise (· < ·)
  | 0 => by simp [othersN]
  | k + 1 => by
    simp only [othersN]
    split
    · rw [List.pairwise_append]
      refine ⟨othersN_sorted, by simp, fun a ha b hb => ?_⟩
      obtain ⟨j, h1, h2, _⟩ := othersN_mem ha
      rw [List.mem_singleton] at hb
      omega
    · exact othersN_sorted

/-- What a step of Read leaves. -/
theorem readS_facts {e : Entry} {n k : Int} (h : mayB e n = true) (h0 : 0 ≤ k) (hk : k < n) :
    (readS e k).2.2 = 0 ∧ (readS e k).2.1 = Entry.Owner e ∧ (Entry.Owner (readS e k).1 = k + 1 ∨ (Entry.Share (readS e k).1)[k.toNat]? = some true) ∧ (0 < Entry.Owner e → Entry.Owner (readS e k).1 = Entry.Owner e) ∧
      (∀ c : Nat, (Entry.Share e)[c]? = some true → (Entry.Share (readS e k).1)[c]? = some true ∨ Entry.Owner (readS e k).1 = c + 1) ∧ mayB (readS e k).1 n = true := by
  have hh := hasB_of h h0 hk
  obtain ⟨⟨m1, m2, m3, m4, m5⟩, m6⟩ := mayB_iff.1 h
  unfold readS
  rw [if_pos hh]
  by_cases h1 : Entry.Owner e = 0 ∧ othersN (Entry.Share e) k (Entry.Share e).length = []
  · rw [if_pos h1]
    refine ⟨rfl, h1.1.symm, .inl (by simp), fun h => by omega, fun c hc => .inr ?_, ?_⟩
    · have hlt : c < (Entry.Share e).length := by
        rcases Nat.lt_or_ge c (Entry.Share e).length with h | h
        · exact h
        · rw [List.getElem?_eq_none h] at hc; cases hc
      have : (c : Int) = k := Classical.byContradiction fun hn => othersN_nil h1.2 c hlt hn hc
      simp [this]
    · refine mayB_iff.2 ⟨?_, .inr ?_⟩
      · simp; omega
      · simp only [Entry.Owner_mk, Entry.Share_mk]
        rw [List.getElem?_replicate]
        split <;> simp
  · rw [if_neg h1]
    by_cases h2 : Entry.Owner e = k + 1
    · rw [if_pos h2]
      exact ⟨rfl, h2.symm, .inl h2, fun _ => rfl, fun c hc => .inl hc, h⟩
    · rw [if_neg h2]
      refine ⟨rfl, rfl, .inr ?_, fun _ => by simp, fun c hc => .inl ?_, mayB_iff.2 ⟨?_, ?_⟩⟩
      · simp only [Entry.Share_mk]
        rw [List.getElem?_set_self (by omega)]
      · simp only [Entry.Share_mk]
        rw [List.getElem?_set]
        split
        · rename_i he
          subst he
          have : k.toNat < (Entry.Share e).length := by omega
          simp [this]
        · exact hc
      · simp; omega
      · rcases m6 with m6 | m6
        · exact .inl (by simpa using m6)
        · by_cases ho : Entry.Owner e = 0
          · exact .inl (by simpa using ho)
          · refine .inr ?_
            simp only [Entry.Owner_mk, Entry.Share_mk]
            rw [List.getElem?_set_ne (by omega)]
            exact m6
theorem writeS_facts {e : Entry} {n k : Int} (h : mayB e n = true) (h0 : 0 ≤ k) (hk : k < n) :
    writeS e k = (Entry.mk (k + 1) (List.replicate (Entry.Share e).length false), Entry.Owner e, othersN (Entry.Share e) k (Entry.Share e).length, 0) ∧ mayB (Entry.mk (k + 1) (List.replicate (Entry.Share e).length false)) n = true ∧
      aloneB (Entry.mk (k + 1) (List.replicate (Entry.Share e).length false)) = true := by
  have hh := hasB_of h h0 hk
  obtain ⟨⟨m1, m2, m3, m4, m5⟩, m6⟩ := mayB_iff.1 h
  have hm : mayB (Entry.mk (k + 1) (List.replicate (Entry.Share e).length false)) n = true := by
    refine mayB_iff.2 ⟨?_, .inr ?_⟩
    · simp; omega
    · simp only [Entry.Owner_mk, Entry.Share_mk]
      rw [List.getElem?_replicate]
      split <;> simp
  refine ⟨?_, hm, ?_⟩
  · unfold writeS
    rw [if_pos hh]
  · unfold aloneB
    have : ((Entry.Share (Entry.mk (k + 1) (List.replicate (Entry.Share e).length false))).length : Int) = n := by simp [m3]
    rw [this, hm]
    have : ¬ true ∈ List.replicate (Entry.Share e).length false := by simp
    have h1 : 0 < k + 1 := by omega
    simp [this, h1]
theorem backS_facts {e : Entry} {n k : Int} (h : mayB e n = true) (h0 : 0 ≤ k) (hk : k < n) :
    (((backS e k).2 = 0) ↔ (Entry.Owner e = k + 1)) ∧ ((backS e k).2 = 0 → Entry.Owner (backS e k).1 = 0) ∧ mayB (backS e k).1 n = true := by
  have hh := hasB_of h h0 hk
  obtain ⟨⟨m1, m2, m3, m4, m5⟩, m6⟩ := mayB_iff.1 h
  unfold backS
  rw [if_pos hh]
  by_cases h1 : Entry.Owner e = k + 1
  · rw [if_pos h1]
    refine ⟨by simp [h1], by simp, mayB_iff.2 ⟨?_, .inl (by simp)⟩⟩
    simp; omega
  · rw [if_neg h1]
    exact ⟨by simp [h1], by simp, h⟩

/-- The loops inside. -/
theorem one_L1 {e a : Entry} {n : Int} (hn : 0 ≤ n ∧ n ≤ 4) (he : ((Entry.Share e).length : Int) = n) (ha : ((Entry.Share a).length : Int) = n) (h : ∀ c : Nat, (Entry.Share e)[c]? = some true → (Entry.Share a)[c]? = some true ∨ Entry.Owner a = c + 1) :
    loopD (l09_DirecOne_L1 n e a) (0 : Int) = some (.inl ()) := by
  have := loop_to (f := l09_DirecOne_L1 n e a) (fun i => (i : Int)) (n := 0) (m := n.toNat) (by omega) fun i _ hi => by
    have hlt : (i : Int) < n := by omega
    have hw : w64 ((i : Int) + 1) = i + 1 := w64_id (by omega) (by omega)
    have h1 : i < (Entry.Share e).length := by omega
    have h2 : i < (Entry.Share a).length := by omega
    have h3 := h i
    rw [List.getElem?_eq_getElem h1, List.getElem?_eq_getElem h2] at h3
    unfold l09_DirecOne_L1
    rw [getO_nat, getO_nat, List.getElem?_eq_getElem h1, List.getElem?_eq_getElem h2]
    cases hb : (Entry.Share e)[i] with
    | false => simp [hlt, hw]
    | true =>
      rw [hb] at h3
      cases hc : (Entry.Share a)[i] with
      | true => simp [hlt, hw]
      | false =>
        rw [hc] at h3
        have h4 : Entry.Owner a = i + 1 := by simpa using h3 rfl
        simp [hlt, hw, h4]
  have hl : l09_DirecOne_L1 n e a ((n.toNat : Nat) : Int) = some (.inr (.inl ())) := by
    have : ((n.toNat : Nat) : Int) = n := by omega
    rw [this]
    unfold l09_DirecOne_L1
    simp
  exact this.trans (loop_out hl)
theorem one_L3 {e : Entry} {n k : Int} (hn : 0 ≤ n ∧ n ≤ 4) (he : ((Entry.Share e).length : Int) = n) : loopD (l09_DirecOne_L3 n e k) ((0 : Int), (0 : Int)) = some ((othersN (Entry.Share e) k (Entry.Share e).length).length : Int) := by
  have := loop_to (f := l09_DirecOne_L3 n e k) (fun i => (((othersN (Entry.Share e) k i).length : Int), (i : Int))) (n := 0) (m := (Entry.Share e).length) (by omega) fun i _ hi => by
    have hlt : (i : Int) < n := by omega
    have hw : w64 ((i : Int) + 1) = i + 1 := w64_id (by omega) (by omega)
    have ho := othersN_len (Entry.Share e) k i
    have hw2 : w64 (((othersN (Entry.Share e) k i).length : Int) + 1) = ((othersN (Entry.Share e) k i).length : Int) + 1 := w64_id (by omega) (by omega)
    unfold l09_DirecOne_L3
    rw [getO_nat, List.getElem?_eq_getElem hi]
    simp only [othersN, List.getElem?_eq_getElem hi, hlt, hw, hw2]
    cases (Entry.Share e)[i] <;> by_cases hk : (i : Int) = k <;> simp [hk]
  refine this.trans (loop_out ?_)
  unfold l09_DirecOne_L3
  simp [he]
theorem one_L2 {e : Entry} {n k : Int} (hn : 0 ≤ n ∧ n ≤ 4) (he : ((Entry.Share e).length : Int) = n) : loopD (l09_DirecOne_L2 e k (othersN (Entry.Share e) k (Entry.Share e).length)) (0 : Int) = some (.inl ()) := by
  generalize hof : othersN (Entry.Share e) k (Entry.Share e).length = off
  have hlen : off.length ≤ 4 := by
    have := othersN_len (Entry.Share e) k (Entry.Share e).length
    rw [hof] at this
    omega
  have hsort : off.Pairwise (· < ·) := hof ▸ othersN_sorted
  have := loop_to (f := l09_DirecOne_L2 e k off) (fun i => (i : Int)) (n := 0) (m := off.length) (by omega) fun i _ hi => by
    have hlt : (i : Int) < (off.length : Int) := by omega
    have hw : w64 ((i : Int) + 1) = i + 1 := w64_id (by omega) (by omega)
    obtain ⟨j, h1, h2, h3, h4⟩ := othersN_mem (l := Entry.Share e) (n := k) (k := (Entry.Share e).length) (x := off[i]) (by rw [hof]; exact List.getElem_mem hi)
    unfold l09_DirecOne_L2
    rw [getO_nat, List.getElem?_eq_getElem hi]
    simp only [Option.bind_some, h1, getO_nat, h3, hlt, decide_true, if_true]
    by_cases hi0 : i = 0
    · subst hi0
      simp [h4, hw]
      rfl
    · have hw2 : w64 ((i : Int) - 1) = ((i - 1 : Nat) : Int) := by rw [w64_id (by omega) (by omega)]; omega
      have hp : off[i - 1] < off[i] := List.pairwise_iff_getElem.1 hsort (i - 1) i (by omega) hi (by omega)
      have hg : off[i - 1]? = some (off[i - 1]) := List.getElem?_eq_getElem (by omega)
      have hpos : 0 < i := by omega
      have hnle : ¬ (j : Int) ≤ off[i - 1] := by omega
      simp [h4, hw, hw2, getO_nat, hg, hpos, hnle]
  refine this.trans (loop_out ?_)
  unfold l09_DirecOne_L2
  simp

end Go.Proofs.Ytklkpogdghiagaa
