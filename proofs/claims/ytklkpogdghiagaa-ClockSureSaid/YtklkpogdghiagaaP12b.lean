/- Layer 12: the law ClockKeeps on typed data. -/
import Derived.Test.YtklkpogdghiagaaP12
import Derived.Test.YtklkpogdghiagaaD122
set_option linter.unusedSimpArgs false
set_option linter.unusedVariables false
namespace Go.Proofs.Ytklkpogdghiagaa
open Go.SX

theorem rightB_iff {c : Clock} : rightB c = true ↔ (1 ≤ (Clock.Marks c).length ∧ (Clock.Marks c).length ≤ 8 ∧ 1 ≤ Clock.Wait c ∧ Clock.Wait c ≤ 1048576) ∧ rightL (Clock.Marks c) (-1) (-1) = true := by
  unfold rightB
  rw [Bool.and_eq_true, decide_eq_true_eq]

theorem time_iff {n : Int} : clock_time n = true ↔ 0 ≤ n ∧ n ≤ 1099511627776 := by
  simp [clock_time]

theorem right_few {c : Clock} (h : rightB c = true) : FewC (Clock.Marks c) := by
  obtain ⟨⟨h1, h2, h3, h4⟩, h5⟩ := rightB_iff.1 h
  exact ⟨by omega, fun i m hm => by have := rightL_mem h5 hm; omega⟩

theorem pS_iff {c : Clock} (h : rightB c = true) {now : Int} (hn : 0 ≤ now ∧ now ≤ 1099511627776) {i : Nat} {m : Mark} (hm : (Clock.Marks c)[i]? = some m) :
    pS c now i = decide (Clock.Wait c ≤ now - Mark.When m) := by
  obtain ⟨_, h5⟩ := rightB_iff.1 h
  have := rightL_mem h5 hm
  unfold pS
  rw [hm]
  simp only
  rw [w64_id (by omega) (by omega)]

theorem pS_mono {c : Clock} (h : rightB c = true) {now now' : Int} (hn : 0 ≤ now) (hl : now ≤ now') (hn' : now' ≤ 1099511627776) {i : Nat} (hp : pS c now i = true) : pS c now' i = true := by
  cases hm : (Clock.Marks c)[i]? with
  | none => simp [pS, hm] at hp
  | some m =>
    rw [pS_iff h ⟨by omega, by omega⟩ hm, decide_eq_true_eq] at hp ⊢
    omega

theorem sure_le {c : Clock} (h : rightB c = true) {now now' : Int} (hn : 0 ≤ now) (hl : now ≤ now') (hn' : now' ≤ 1099511627776) : sureN c now ≤ sureN c now' := by
  obtain ⟨h1, h2, h3⟩ := lastB_spec (pS c now) (Clock.Marks c).length
  obtain ⟨g1, g2, g3⟩ := lastB_spec (pS c now') (Clock.Marks c).length
  obtain ⟨⟨h6, _⟩, _⟩ := rightB_iff.1 h
  rcases Nat.lt_or_ge (sureN c now') (sureN c now) with hlt | hge
  · have hlt' : lastB (pS c now') (Clock.Marks c).length < lastB (pS c now) (Clock.Marks c).length := hlt
    rcases h1 with h1 | h1
    · omega
    · have := g3 _ hlt' (by omega)
      rw [pS_mono h hn hl hn' h1] at this
      cases this
  · exact hge

/-- What Keep leaves. -/
def kept (c : Clock) (a : Nat) : Clock := Clock.mk ((Clock.Marks c).drop a) (Clock.Wait c)

theorem kept_right {c : Clock} (h : rightB c = true) {a : Nat} (ha : a < (Clock.Marks c).length) : rightB (kept c a) = true := by
  obtain ⟨⟨h1, h2, h3, h4⟩, h5⟩ := rightB_iff.1 h
  refine rightB_iff.2 ⟨⟨?_, ?_, h3, h4⟩, rightL_drop a (Int.le_refl _) (Int.le_refl _) h5⟩
  · simp only [kept, Clock.Marks_mk, List.length_drop]; omega
  · simp only [kept, Clock.Marks_mk, List.length_drop]; omega

theorem kept_sure {c : Clock} {now : Int} {a : Nat} (ha : a ≤ sureN c now) (h1 : 1 ≤ (Clock.Marks c).length) : sureN (kept c a) now = sureN c now - a := by
  have hs := sureN_lt h1 now
  have hp : ∀ i, pS (kept c a) now i = pS c now (a + i) := fun i => by
    have he : (Clock.Marks (kept c a))[i]? = (Clock.Marks c)[a + i]? := by simp only [kept, Clock.Marks_mk, List.getElem?_drop]
    unfold pS
    rw [he]
    rfl
  obtain ⟨g1, g2, g3⟩ := lastB_spec (pS c now) (Clock.Marks c).length
  have hlen : (Clock.Marks (kept c a)).length = (Clock.Marks c).length - a := by simp [kept]
  unfold sureN at hs ha ⊢
  rw [hlen]
  refine lastB_unique ?_ (by omega) fun i hi hi' => ?_
  · rcases Nat.eq_or_lt_of_le ha with he | hlt
    · left; omega
    · right
      rw [hp]
      have : a + (lastB (pS c now) (Clock.Marks c).length - a) = lastB (pS c now) (Clock.Marks c).length := by omega
      rw [this]
      rcases g1 with g1 | g1
      · omega
      · exact g1
  · rw [hp]
    exact g3 _ (by omega) (by omega)

theorem clockKeeps_all (c : Clock) (now later : Int) (hl : (Clock.Marks c).length ≤ maxLen) (hn : -9223372036854775808 ≤ now ∧ now ≤ 9223372036854775807) (hd : 0 ≤ later ∧ later ≤ 65535) : l12_ClockKeeps c now later = some true := by
  unfold l12_ClockKeeps
  rcases r12_Short_eq (c := c) with ⟨hs, hf⟩ | hs
  · by_cases hbig : (549755813888 : Int) < now
    · simp [l12_awake, hs, hbig]
    · cases hm : rightB c && clock_time now with
      | false =>
        simp [l12_awake, hs, hbig, clock_Keep_eq hf, hm, r12_Same_refl hf]
      | true =>
        rw [Bool.and_eq_true] at hm
        obtain ⟨hr, ht⟩ := hm
        have ht' := time_iff.1 ht
        obtain ⟨⟨h1, h2, h3, h4⟩, h5⟩ := rightB_iff.1 hr
        have ha := sureN_lt h1 now
        have hw1 : w64 later = later := w64_id (by omega) (by omega)
        have hw2 : w64 (now + later) = now + later := w64_id (by omega) (by omega)
        have ht2 : clock_time (now + later) = true := time_iff.2 (by omega)
        have hb := sureN_lt h1 (now + later)
        have hab := sure_le hr ht'.1 (show now ≤ now + later by omega) (by omega)
        have hk := kept_right hr ha
        have hkf := right_few hk
        have e1 : sureN (kept c (sureN c now)) (now + later) = sureN c (now + later) - sureN c now := kept_sure hab h1
        have e2 : sureN (kept c (sureN c now)) now = 0 := by rw [kept_sure (Nat.le_refl _) h1]; omega
        have k1 : clock_Keep c now = some (kept c (sureN c now), 0) := by
          rw [clock_Keep_eq hf]; simp [hr, ht, kept]
        have k2 : clock_Keep (kept c (sureN c now)) now = some (kept c (sureN c now), 0) := by
          rw [clock_Keep_eq hkf]
          rw [e2]
          simp [hk, ht, List.drop_zero]
        obtain ⟨m, hm⟩ : ∃ m, (Clock.Marks c)[sureN c (now + later)]? = some m := ⟨_, List.getElem?_eq_getElem hb⟩
        have s1 : clock_Sure c (now + later) = some (m, 0) := by
          rw [clock_Sure_eq hf]; simp [hr, ht2, hm]
        have s2 : clock_Sure (kept c (sureN c now)) (now + later) = some (m, 0) := by
          rw [clock_Sure_eq hkf, e1]
          have : (Clock.Marks (kept c (sureN c now)))[sureN c (now + later) - sureN c now]? = some m := by
            simp only [kept, Clock.Marks_mk, List.getElem?_drop]
            rw [show sureN c now + (sureN c (now + later) - sureN c now) = sureN c (now + later) by omega, hm]
          rw [this]
          simp [hk, ht2]
        have hmc := rightL_mem h5 hm
        have r1 : r12_Mark m m = some true := r12_Mark_refl (by omega)
        have r2 := r12_Same_refl hkf
        have hlen : (Clock.Marks (kept c (sureN c now))).length = (Clock.Marks c).length - sureN c now := by simp [kept]
        have hle : ¬ ((Clock.Marks c).length : Int) < ((Clock.Marks (kept c (sureN c now))).length : Int) := by omega
        have hle2 : (Clock.Marks (kept c (sureN c now))).length ≤ (Clock.Marks c).length := by omega
        have lp := loop_all_t (f := l12_ClockKeeps_L1 c (kept c (sureN c now))) (n := (Clock.Marks (kept c (sureN c now))).length) (fun i hi => by
          have hlt : (i : Int) < ((Clock.Marks (kept c (sureN c now))).length : Int) := by omega
          have hw : w64 ((i : Int) + 1) = (i : Int) + 1 := w64_id (by omega) (by omega)
          have hw3 : w64 (((Clock.Marks c).length : Int) - ((Clock.Marks (kept c (sureN c now))).length : Int)) = (sureN c now : Int) := by
            rw [w64_id (by omega) (by omega)]; omega
          have hw4 : w64 ((sureN c now : Int) + (i : Int)) = ((sureN c now + i : Nat) : Int) := by
            rw [w64_id (by omega) (by omega)]; omega
          have hj : sureN c now + i < (Clock.Marks c).length := by omega
          obtain ⟨x, hx⟩ : ∃ x, (Clock.Marks c)[sureN c now + i]? = some x := ⟨_, List.getElem?_eq_getElem hj⟩
          have hx' : (Clock.Marks (kept c (sureN c now)))[i]? = some x := by
            simp only [kept, Clock.Marks_mk, List.getElem?_drop, hx]
          have hxc := rightL_mem h5 hx
          have hxr : r12_Mark x x = some true := r12_Mark_refl (by omega)
          unfold l12_ClockKeeps_L1
          simp only [hlt, decide_true, if_true, hw3, hw4, getO_nat, hx', hx, Option.bind_some, hxr, Bool.not_true, Bool.false_eq_true, if_false, hw]) (by
          unfold l12_ClockKeeps_L1
          simp)
        simp [l12_awake, hs, hbig, k1, hw1, hw2, s1, s2, k2, r1, r2, hle, hle2, lp]
  · simp [l12_awake, hs]

theorem clockKeeps_ok (x : Ty.Tup F_l12_ClockKeeps.ps) (h : OkL F_l12_ClockKeeps.ps x) : F_l12_ClockKeeps.sem x = some true :=
  clockKeeps_all x.1 x.2.1 x.2.2 h.1.1.1 h.2.1 h.2.2

end Go.Proofs.Ytklkpogdghiagaa
