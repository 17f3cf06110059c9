/- Layer 9: the law DirecOne on typed data: its loop. -/
import Derived.Test.YtklkpogdghiagaaP09c
set_option linter.unusedSimpArgs false
set_option linter.unusedVariables false
namespace Go.Proofs.Ytklkpogdghiagaa
open Go.SX

theorem rem_lt {a n : Int} (h0 : 0 ≤ a) (hn : 0 < n) : remO a n = some (a % n) ∧ 0 ≤ a % n ∧ a % n < n := by
  refine ⟨?_, Int.emod_nonneg _ (by omega), Int.emod_lt_of_pos _ hn⟩
  unfold remO
  rw [if_neg (by omega), Int.tmod_eq_emod_of_nonneg h0]

theorem one_L4 {l : List Int} (hl : l.length ≤ maxLen) (hb : ∀ x ∈ l, 0 ≤ x ∧ x ≤ 255) {n : Int} (hn : 1 ≤ n ∧ n ≤ 4) {i : Nat} {e : Entry} (hi : i < l.length ∧ i < 100) (hm : mayB e n = true) :
    ∃ e', l09_DirecOne_L4 l n ((i : Int), e) = some (.inl ((i : Int) + 1, e')) ∧ mayB e' n = true := by
  obtain ⟨⟨m1, m2, m3, m4, m5⟩, m6⟩ := mayB_iff.1 hm
  have hlt : (i : Int) < (l.length : Int) := by omega
  have hlt2 : (i : Int) < 100 := by omega
  have hw : w64 ((i : Int) + 1) = i + 1 := w64_id (by omega) (by omega)
  obtain ⟨x, hx⟩ : ∃ x, l[i]? = some x := ⟨_, List.getElem?_eq_getElem hi.1⟩
  obtain ⟨hx0, hx1⟩ := hb x (List.mem_of_getElem? hx)
  have hq : quoO .u8 x 3 = some (x / 3) := by
    unfold quoO
    rw [if_neg (by omega), Int.tdiv_eq_ediv_of_nonneg hx0]
    exact congrArg some (wu8_id (by omega) (by omega))
  have hw3 : w64 (x / 3) = x / 3 := w64_id (by omega) (by omega)
  obtain ⟨hk, hk0, hk1⟩ := rem_lt (a := x / 3) (n := n) (by omega) (by omega)
  obtain ⟨hr, hr0, hr1⟩ := rem_lt (a := x) (n := 3) hx0 (by omega)
  generalize x / 3 % n = k at hk hk0 hk1
  generalize x % 3 = q at hr hr0 hr1
  have hwk : w64 (k + 1) = k + 1 := w64_id (by omega) (by omega)
  have hc : (decide ((i : Int) < (l.length : Int)) && decide ((i : Int) < 100)) = true := by simp [hlt, hlt2]
  have hle : (Entry.Share e).length ≤ 1000 := by omega
  unfold l09_DirecOne_L4
  simp only [hc, if_true, getO_nat, hx, Option.bind_some, hq, hw3, hk, hr, direc_May_eq]
  by_cases q0 : q = 0
  · -- it reads
    obtain ⟨f1, f2, f3, f4, f5, f6⟩ := readS_facts hm hk0 hk1
    have f7 := (mayB_iff.1 f6).1.2.2.1
    have hloop := one_L1 (n := n) (by omega) m3 f7 f5
    refine ⟨(readS e k).1, ?_, f6⟩
    simp only [q0, decide_true, if_true, direc_Read_eq _ _ hle, Option.bind_some, f1, f2, Bool.not_true, Bool.false_eq_true, if_false, hwk, hloop, orExit_inl, f6, hw]
    by_cases g1 : Entry.Owner (readS e k).1 = k + 1
    · by_cases g2 : 0 < Entry.Owner e
      · have g3 := f4 g2
        simp [g1, g2, ← g3, f6]
      · simp [g1, g2, f6]
    · have g4 := f3.resolve_left g1
      have g5 : getO (Entry.Share (readS e k).1) k = some true := by
        have := getO_nat (Entry.Share (readS e k).1) k.toNat
        rw [show ((k.toNat : Nat) : Int) = k by omega] at this
        rw [this, g4]
      by_cases g2 : 0 < Entry.Owner e
      · have g3 := f4 g2
        have g6 : ¬ Entry.Owner e = k + 1 := by rw [← g3]; exact g1
        simp [g6, g5, g2, g3, f6]
      · simp [g1, g5, g2, f6]
  · by_cases q1 : q = 1
    · -- it writes
      obtain ⟨f1, f2, f3⟩ := writeS_facts hm hk0 hk1
      refine ⟨Entry.mk (k + 1) (List.replicate (Entry.Share e).length false), ?_, f2⟩
      have h3 := one_L3 (k := k) (n := n) (by omega) m3
      have h2 := one_L2 (k := k) (n := n) (by omega) m3
      simp [q1, direc_Write_eq _ _ hle, f1, f2, hwk, direc_Alone_eq, f3, h3, h2, hw]
    · -- it gives back
      obtain ⟨f1, f2, f3⟩ := backS_facts hm hk0 hk1
      refine ⟨(backS e k).1, ?_, f3⟩
      by_cases g1 : Entry.Owner e = k + 1
      · have g2 := f1.2 g1
        have g3 := f2 g2
        simp [q0, q1, direc_Back_eq _ _ hle, hwk, g1, g2, g3, f3, hw]
      · have g2 : ¬ (backS e k).2 = 0 := fun h => g1 (f1.1 h)
        simp [q0, q1, direc_Back_eq _ _ hle, hwk, g1, g2, f3, hw]

theorem direcOne_all (c : Int) (l : List Int) (hc : 0 ≤ c ∧ c ≤ 255) (hl : l.length ≤ maxLen) (hb : ∀ x ∈ l, 0 ≤ x ∧ x ≤ 255) : l09_DirecOne c l = some true := by
  obtain ⟨h1, h2, h3⟩ := rem_lt (a := c) (n := 4) hc.1 (by omega)
  generalize c % 4 = r at h1 h2 h3
  have hw1 : w64 r = r := w64_id (by omega) (by omega)
  obtain ⟨k, hk⟩ : ∃ k : Nat, r + 1 = (k : Int) := ⟨(r + 1).toNat, by omega⟩
  have hw2 : w64 (r + 1) = (k : Int) := by rw [w64_id (by omega) (by omega), hk]
  have hnew : direc_New (k : Int) = some (Entry.mk 0 (List.replicate k false), 0) := by
    unfold direc_New
    have : ¬ (decide ((k : Int) < 1) || decide (4 < (k : Int))) = true := by simp; omega
    rw [if_neg this, rep1 (by omega)]
    rfl
  have hloop : ∃ r, loopD (l09_DirecOne_L4 l (k : Int)) ((0 : Int), Entry.mk 0 (List.replicate k false)) = some r ∧ r = Sum.inl () := by
    have start : mayB (Entry.mk 0 (List.replicate k false)) (k : Int) = true := by
      refine mayB_iff.2 ⟨?_, .inl (by simp)⟩
      simp
      omega
    refine loop_rule (f := l09_DirecOne_L4 l (k : Int)) (fun s : Int × Entry => ∃ i : Nat, s.1 = i ∧ i ≤ l.length ∧ mayB s.2 (k : Int) = true) (fun s : Int × Entry => l.length - s.1.toNat) (fun r => r = Sum.inl ()) (fun s ⟨i, e1, e2, e3⟩ => ?_) (s := ((0 : Int), Entry.mk 0 (List.replicate k false))) ⟨0, rfl, by omega, start⟩
    · obtain ⟨s1, s2⟩ := s
      simp only at e1 e3
      subst e1
      by_cases hi : i < l.length ∧ i < 100
      · obtain ⟨e', g1, g2⟩ := one_L4 hl hb (n := (k : Int)) (by omega) hi e3
        exact .inl ⟨_, g1, ⟨i + 1, by simp, by omega, g2⟩, by simp only; omega⟩
      · refine .inr ⟨_, ?_, rfl⟩
        have : (decide ((i : Int) < (l.length : Int)) && decide ((i : Int) < 100)) = false := by simp; omega
        unfold l09_DirecOne_L4
        simp [this]
        omega
  obtain ⟨r', hr1, hr2⟩ := hloop
  subst hr2
  unfold l09_DirecOne
  simp [l09_awake, h1, hw1, hw2, hnew, hr1]

theorem direcOne_ok (x : Ty.Tup F_l09_DirecOne.ps) (h : OkL F_l09_DirecOne.ps x) : F_l09_DirecOne.sem x = some true :=
  direcOne_all x.1 x.2 h.1 h.2.1 h.2.2

end Go.Proofs.Ytklkpogdghiagaa
