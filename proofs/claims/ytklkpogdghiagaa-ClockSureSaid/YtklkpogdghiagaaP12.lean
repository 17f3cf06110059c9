/- Layer 12: what the functions tell, in plain words. -/
import Derived.Test.YtklkpogdghiagaaD121
set_option linter.unusedSimpArgs false
set_option linter.unusedVariables false
namespace Go.Proofs.Ytklkpogdghiagaa
open Go.SX

theorem loop_all_t {R : Type} {f : Int → Option (Int ⊕ Unit ⊕ R)} {n : Nat}
    (hs : ∀ i : Nat, i < n → f (i : Int) = some (.inl ((i : Int) + 1))) (he : f (n : Int) = some (.inr (.inl ()))) : loopD f 0 = some (.inl ()) := by
  have h := loop_to (f := f) (fun i => (i : Int)) (n := 0) (m := n) (Nat.zero_le _) (fun i _ hi => by simpa using hs i hi)
  have h0 : ((0 : Nat) : Int) = 0 := rfl
  rw [h0] at h
  rw [h, loop_out he]

/-- The last place below n where p, or 0. -/
def lastB (p : Nat → Bool) : Nat → Nat
  | 0 => 0
  | n + 1 => bif p n then n else lastB p n

theorem lastB_le (p : Nat → Bool) : ∀ n, lastB p n ≤ n
  | 0 => Nat.le_refl _
  | n + 1 => by
    have := lastB_le p n
    unfold lastB
    cases p n <;> simp <;> omega

theorem lastB_spec (p : Nat → Bool) : ∀ n, (lastB p n = 0 ∨ p (lastB p n) = true) ∧ (lastB p n < n ∨ n = 0) ∧ ∀ i, lastB p n < i → i < n → p i = false
  | 0 => ⟨.inl rfl, .inr rfl, fun i _ h => by omega⟩
  | n + 1 => by
    obtain ⟨h1, h2, h3⟩ := lastB_spec p n
    have hle := lastB_le p n
    unfold lastB
    cases hp : p n with
    | true => exact ⟨.inr (by simpa using hp), .inl (by simp), fun i h4 h5 => by simp at h4; omega⟩
    | false =>
      refine ⟨by simpa using h1, .inl (by simp; omega), fun i h4 h5 => ?_⟩
      simp at h4
      rcases Nat.lt_or_ge i n with h6 | h6
      · exact h3 i h4 h6
      · have : i = n := by omega
        rw [this]; exact hp

theorem lastB_unique {p : Nat → Bool} {n a : Nat} (h1 : a = 0 ∨ p a = true) (h2 : a < n) (h3 : ∀ i, a < i → i < n → p i = false) : lastB p n = a := by
  obtain ⟨g1, g2, g3⟩ := lastB_spec p n
  rcases Nat.lt_trichotomy (lastB p n) a with h | h | h
  · have hp := g3 a h h2
    rcases h1 with h1 | h1
    · omega
    · rw [h1] at hp; cases hp
  · exact h
  · have hp := h3 _ h (by omega)
    rcases g1 with g1 | g1
    · omega
    · rw [g1] at hp; cases hp

/-! ### Right -/
def badM (m : Mark) (s w : Int) : Bool :=
  (!(clock_time (Mark.Span m))) || ((!(clock_time (Mark.When m))) || ((decide ((Mark.Span m) ≤ s)) || ((decide ((Mark.When m) ≤ w)) || (decide ((4 : Int) < (List.length (Mark.Cores m) : Int))))))
def rightL : List Mark → Int → Int → Bool
  | [], _, _ => true
  | m :: t, s, w => !badM m s w && rightL t (Mark.Span m) (Mark.When m)

theorem badM_iff {m : Mark} {s w : Int} : badM m s w = false ↔ (0 ≤ Mark.Span m ∧ Mark.Span m ≤ 1099511627776) ∧ (0 ≤ Mark.When m ∧ Mark.When m ≤ 1099511627776) ∧ s < Mark.Span m ∧ w < Mark.When m ∧ (Mark.Cores m).length ≤ 4 := by
  simp only [badM, clock_time, Bool.or_eq_false_iff, Bool.not_eq_false', Bool.and_eq_true, decide_eq_true_eq, decide_eq_false_iff_not]
  omega

theorem right_loop (l : List Mark) (hl : l.length ≤ 1000) : ∀ (k i : Nat) (s w : Int), l.length - i = k → i ≤ l.length →
    loopD (clock_Right_L1 l (l.length : Int)) (s, w, (i : Int)) = some (if rightL (l.drop i) s w = true then .inl () else .inr false) := by
  intro k
  induction k with
  | zero =>
    intro i s w h1 h2
    have hi : i = l.length := by omega
    subst hi
    have : clock_Right_L1 l (l.length : Int) (s, w, (l.length : Int)) = some (.inr (.inl ())) := by
      unfold clock_Right_L1
      simp
    rw [loop_out this]
    simp [rightL]
  | succ k ih =>
    intro i s w h1 h2
    have hi : i < l.length := by omega
    have hlt : (i : Int) < (l.length : Int) := by omega
    have hw : w64 ((i : Int) + 1) = ((i + 1 : Nat) : Int) := by rw [w64_id (by omega) (by omega)]; omega
    rw [List.drop_eq_getElem_cons hi]
    cases hb : badM l[i] s w with
    | true =>
      have : clock_Right_L1 l (l.length : Int) (s, w, (i : Int)) = some (.inr (.inr false)) := by
        unfold clock_Right_L1
        unfold badM at hb
        simp only [hlt, decide_true, if_true, getO_nat, List.getElem?_eq_getElem hi, Option.bind_some, hb]
      rw [loop_out this]
      simp [rightL, hb]
    | false =>
      have : clock_Right_L1 l (l.length : Int) (s, w, (i : Int)) = some (.inl (Mark.Span l[i], Mark.When l[i], ((i + 1 : Nat) : Int))) := by
        unfold clock_Right_L1
        unfold badM at hb
        simp only [hlt, decide_true, if_true, getO_nat, List.getElem?_eq_getElem hi, Option.bind_some, hb, hw]
        rfl
      rw [loop_next this, ih (i + 1) _ _ (by omega) (by omega)]
      simp [rightL, hb]

def rightB (c : Clock) : Bool :=
  decide (1 ≤ (Clock.Marks c).length ∧ (Clock.Marks c).length ≤ 8 ∧ 1 ≤ Clock.Wait c ∧ Clock.Wait c ≤ 1048576) && rightL (Clock.Marks c) (-1) (-1)

theorem clock_Right_eq {c : Clock} (hl : (Clock.Marks c).length ≤ 1000) : clock_Right c = some (rightB c) := by
  unfold clock_Right rightB
  by_cases h : 1 ≤ (Clock.Marks c).length ∧ (Clock.Marks c).length ≤ 8 ∧ 1 ≤ Clock.Wait c ∧ Clock.Wait c ≤ 1048576
  · have hc : ((decide ((List.length (Clock.Marks c) : Int) < (1 : Int))) || ((decide ((8 : Int) < (List.length (Clock.Marks c) : Int))) || ((decide ((Clock.Wait c) < (1 : Int))) || (decide ((1048576 : Int) < (Clock.Wait c)))))) = false := by
      simp only [Bool.or_eq_false_iff, decide_eq_false_iff_not]
      omega
    have hr := right_loop (Clock.Marks c) hl _ 0 (-1) (-1) rfl (Nat.zero_le _)
    have h0 : ((0 : Nat) : Int) = 0 := rfl
    rw [h0, List.drop_zero] at hr
    simp only [hc, Bool.false_eq_true, if_false, hr, decide_eq_true h, Bool.true_and]
    cases rightL (Clock.Marks c) (-1) (-1) <;> simp
  · have hc : ((decide ((List.length (Clock.Marks c) : Int) < (1 : Int))) || ((decide ((8 : Int) < (List.length (Clock.Marks c) : Int))) || ((decide ((Clock.Wait c) < (1 : Int))) || (decide ((1048576 : Int) < (Clock.Wait c)))))) = true := by
      simp only [Bool.or_eq_true, decide_eq_true_eq]
      omega
    simp only [hc, if_true, decide_eq_false h, Bool.false_and]

theorem clock_may_eq {c : Clock} (hl : (Clock.Marks c).length ≤ 1000) (now : Int) : clock_may c now = some (rightB c && clock_time now) := by
  unfold clock_may
  rw [clock_Right_eq hl]
  cases rightB c <;> simp

theorem rightL_cons {m : Mark} {t : List Mark} {s w : Int} : rightL (m :: t) s w = true ↔ badM m s w = false ∧ rightL t (Mark.Span m) (Mark.When m) = true := by
  simp [rightL]

theorem rightL_mono {l : List Mark} {s w s' w' : Int} (h1 : s' ≤ s) (h2 : w' ≤ w) (h : rightL l s w = true) : rightL l s' w' = true := by
  cases l with
  | nil => rfl
  | cons m t =>
    obtain ⟨g1, g2⟩ := rightL_cons.1 h
    refine rightL_cons.2 ⟨badM_iff.2 ?_, g2⟩
    have := badM_iff.1 g1
    omega

theorem rightL_drop : ∀ {l : List Mark} {s w : Int} (k : Nat), -1 ≤ s → -1 ≤ w → rightL l s w = true → rightL (l.drop k) (-1) (-1) = true
  | l, s, w, 0, h1, h2, h => rightL_mono h1 h2 h
  | [], s, w, k + 1, h1, h2, h => rfl
  | m :: t, s, w, k + 1, h1, h2, h => by
    obtain ⟨g1, g2⟩ := rightL_cons.1 h
    have := badM_iff.1 g1
    exact rightL_drop k (by omega) (by omega) g2

theorem rightL_mem : ∀ {l : List Mark} {s w : Int}, rightL l s w = true → ∀ {i : Nat} {m : Mark}, l[i]? = some m →
    (0 ≤ Mark.Span m ∧ Mark.Span m ≤ 1099511627776) ∧ (0 ≤ Mark.When m ∧ Mark.When m ≤ 1099511627776) ∧ s < Mark.Span m ∧ w < Mark.When m ∧ (Mark.Cores m).length ≤ 4
  | [], s, w, h, i, m, hm => by simp at hm
  | a :: t, s, w, h, 0, m, hm => by
    obtain ⟨g1, g2⟩ := rightL_cons.1 h
    simp at hm
    subst hm
    exact badM_iff.1 g1
  | a :: t, s, w, h, i + 1, m, hm => by
    obtain ⟨g1, g2⟩ := rightL_cons.1 h
    have h3 := rightL_mem g2 (i := i) (m := m) (by simpa using hm)
    have h4 := badM_iff.1 g1
    refine ⟨h3.1, h3.2.1, by omega, by omega, h3.2.2.2.2⟩

theorem rightL_lt : ∀ {l : List Mark} {s w : Int}, rightL l s w = true → ∀ {i j : Nat} {a b : Mark}, i < j → l[i]? = some a → l[j]? = some b →
    Mark.Span a < Mark.Span b ∧ Mark.When a < Mark.When b
  | [], s, w, h, i, j, a, b, hij, ha, hb => by simp at ha
  | x :: t, s, w, h, 0, 0, a, b, hij, ha, hb => by omega
  | x :: t, s, w, h, 0, j + 1, a, b, hij, ha, hb => by
    obtain ⟨g1, g2⟩ := rightL_cons.1 h
    simp at ha
    subst ha
    have := rightL_mem g2 (i := j) (m := b) (by simpa using hb)
    exact ⟨this.2.2.1, this.2.2.2.1⟩
  | x :: t, s, w, h, i + 1, 0, a, b, hij, ha, hb => by omega
  | x :: t, s, w, h, i + 1, j + 1, a, b, hij, ha, hb => by
    obtain ⟨g1, g2⟩ := rightL_cons.1 h
    exact rightL_lt g2 (i := i) (j := j) (by omega) (by simpa using ha) (by simpa using hb)

/-! ### Which one is sure -/
def pS (c : Clock) (now : Int) (i : Nat) : Bool :=
  match (Clock.Marks c)[i]? with
  | some m => decide (Clock.Wait c ≤ w64 (now - Mark.When m))
  | none => false
def sureN (c : Clock) (now : Int) : Nat := lastB (pS c now) (Clock.Marks c).length

theorem clock_sure_eq {c : Clock} (hl : (Clock.Marks c).length ≤ 1000) (now : Int) : clock_sure c now = some (sureN c now : Int) := by
  unfold clock_sure
  have h := loop_to (f := clock_sure_L1 c now (Clock.Marks c) ((Clock.Marks c).length : Int)) (fun i => ((lastB (pS c now) i : Int), (i : Int))) (n := 0) (m := (Clock.Marks c).length) (Nat.zero_le _) (fun i _ hi => by
    have hlt : (i : Int) < ((Clock.Marks c).length : Int) := by omega
    have hw : w64 ((i : Int) + 1) = ((i + 1 : Nat) : Int) := by rw [w64_id (by omega) (by omega)]; omega
    unfold clock_sure_L1
    simp only [hlt, decide_true, if_true, getO_nat, List.getElem?_eq_getElem hi, Option.bind_some, hw, lastB, pS]
    cases decide (Clock.Wait c ≤ w64 (now - Mark.When (Clock.Marks c)[i])) <;> rfl)
  have h0 : ((lastB (pS c now) 0 : Int), ((0 : Nat) : Int)) = ((0 : Int), (0 : Int)) := rfl
  rw [h0] at h
  have he : clock_sure_L1 c now (Clock.Marks c) ((Clock.Marks c).length : Int) ((lastB (pS c now) (Clock.Marks c).length : Int), ((Clock.Marks c).length : Int)) = some (.inr (lastB (pS c now) (Clock.Marks c).length : Int)) := by
    unfold clock_sure_L1
    simp
  simp only [h, loop_out he]
  rfl

theorem sureN_lt {c : Clock} (h : 1 ≤ (Clock.Marks c).length) (now : Int) : sureN c now < (Clock.Marks c).length := by
  obtain ⟨_, h2, _⟩ := lastB_spec (pS c now) (Clock.Marks c).length
  rcases h2 with h2 | h2
  · exact h2
  · omega

/-! ### Copies -/
def FewC (l : List Mark) : Prop := l.length ≤ 12 ∧ ∀ (i : Nat) (m : Mark), l[i]? = some m → (Mark.Cores m).length ≤ 8

theorem copies {l : List Mark} (h : FewC l) : loopD (clock_Keep_L1 l (l.length : Int)) ((0 : Int), ([] : List Mark)) = some l := by
  have h1 := loop_to (f := clock_Keep_L1 l (l.length : Int)) (fun i => ((i : Int), l.take i)) (n := 0) (m := l.length) (Nat.zero_le _) (fun i _ hi => by
    have hlt : (i : Int) < (l.length : Int) := by omega
    have := h.1
    have hw : w64 ((i : Int) + 1) = ((i + 1 : Nat) : Int) := by rw [w64_id (by omega) (by omega)]; omega
    have hc := h.2 i _ (List.getElem?_eq_getElem hi)
    have hcl : cloneO 48 (Mark.Cores l[i]) = some (Mark.Cores l[i]) := cloneO_ok (roomOk_of (by omega) (by omega))
    have hap : appO 40 (l.take i) ([Mark.mk (Mark.Span l[i]) (Mark.When l[i]) (Mark.Cores l[i])] : List Mark) = some (l.take i ++ [l[i]]) := by
      have hn : (l.take i).length ≤ 12 := by rw [List.length_take]; omega
      exact appO_ok (roomOk_of (by simp only [List.length_singleton]; omega) (by simp only [List.length_singleton]; omega))
    unfold clock_Keep_L1
    simp only [hlt, decide_true, if_true, getO_nat, List.getElem?_eq_getElem hi, Option.bind_some, hw, hcl, hap]
    rw [List.take_succ_eq_append_getElem hi])
  have he : clock_Keep_L1 l (l.length : Int) ((l.length : Int), l.take l.length) = some (.inr l) := by
    unfold clock_Keep_L1
    simp
  have h0 : (((0 : Nat) : Int), l.take 0) = ((0 : Int), ([] : List Mark)) := by simp
  rw [h0] at h1
  rw [h1, loop_out he]

theorem clock_Keep_eq {c : Clock} (h : FewC (Clock.Marks c)) (now : Int) :
    clock_Keep c now = some (if (rightB c && clock_time now) = true then (Clock.mk ((Clock.Marks c).drop (sureN c now)) (Clock.Wait c), 0) else (c, 1)) := by
  have hl : (Clock.Marks c).length ≤ 1000 := by have := h.1; omega
  unfold clock_Keep
  simp only [copies h, Option.bind_some, clock_may_eq hl, clock_sure_eq hl]
  cases hm : rightB c && clock_time now with
  | false => simp [Clock.mk, Clock.Marks, Clock.Wait]
  | true =>
    have hr : rightB c = true := by cases hb : rightB c <;> simp [hb] at hm ⊢
    unfold rightB at hr
    rw [Bool.and_eq_true, decide_eq_true_eq] at hr
    have hs := sureN_lt hr.1.1 now
    have e1 : rngO ((Clock.Marks c).length : Int) (sureN c now : Int) ((Clock.Marks c).length : Int) = some ((Clock.Marks c).length : Int) := by
      unfold rngO
      rw [if_pos ⟨by omega, by omega, by omega⟩]
    have e2 : subO (Clock.Marks c) (sureN c now : Int) ((Clock.Marks c).length : Int) = some ((Clock.Marks c).drop (sureN c now)) := by
      rw [subO_ok (by omega) (by omega) (by omega)]
      simp
    simp [e1, e2]

theorem clock_Sure_eq {c : Clock} (h : FewC (Clock.Marks c)) (now : Int) :
    clock_Sure c now = if (rightB c && clock_time now) = true then ((Clock.Marks c)[sureN c now]?).map (fun m => (m, 0)) else some (Mark.mk 0 0 [], 1) := by
  have hl : (Clock.Marks c).length ≤ 1000 := by have := h.1; omega
  unfold clock_Sure
  simp only [Option.bind_some, clock_may_eq hl, clock_sure_eq hl]
  cases hm : rightB c && clock_time now with
  | false => simp
  | true =>
    simp only [Bool.not_true, Bool.false_eq_true, if_false, if_true, getO_nat]
    cases hx : (Clock.Marks c)[sureN c now]? with
    | none => rfl
    | some m =>
      have hc := h.2 _ _ hx
      have hcl : cloneO 48 (Mark.Cores m) = some (Mark.Cores m) := cloneO_ok (roomOk_of (by omega) (by omega))
      simp only [Option.bind_some, hcl, Option.map_some]
      rfl

/-! ### The reference -/
theorem r04_Cores_refl {l : List Core} (hl : l.length ≤ 1000) : r04_Cores l l = some true := by
  unfold r04_Cores
  have h := loop_all_t (f := r04_Cores_L1 l l) (n := l.length) (fun i hi => by
    have hlt : (i : Int) < (l.length : Int) := by omega
    have hw : w64 ((i : Int) + 1) = (i : Int) + 1 := w64_id (by omega) (by omega)
    unfold r04_Cores_L1
    simp [hlt, getO_nat, List.getElem?_eq_getElem hi, hw]) (by
    unfold r04_Cores_L1
    simp)
  simp [h]

theorem r12_Mark_refl {m : Mark} (h : (Mark.Cores m).length ≤ 1000) : r12_Mark m m = some true := by
  unfold r12_Mark
  simp [r04_Cores_refl h]

theorem r12_Same_refl {c : Clock} (h : FewC (Clock.Marks c)) : r12_Same c c = some true := by
  unfold r12_Same
  have h0 := h.1
  have h := loop_all_t (f := r12_Same_L1 c c) (n := (Clock.Marks c).length) (fun i hi => by
    have hlt : (i : Int) < ((Clock.Marks c).length : Int) := by omega
    have hw : w64 ((i : Int) + 1) = (i : Int) + 1 := w64_id (by omega) (by omega)
    have hc := h.2 i _ (List.getElem?_eq_getElem hi)
    unfold r12_Same_L1
    simp [hlt, getO_nat, List.getElem?_eq_getElem hi, hw, r12_Mark_refl (show (Mark.Cores (Clock.Marks c)[i]).length ≤ 1000 by omega)]) (by
    unfold r12_Same_L1
    simp)
  simp [h]

theorem r12_Short_eq {c : Clock} : r12_Short c = some true ∧ FewC (Clock.Marks c) ∨ r12_Short c = some false := by
  by_cases h : (12 : Int) < ((Clock.Marks c).length : Int)
  · refine .inr ?_
    unfold r12_Short
    simp only [h, decide_true, if_true]
  · rcases first_of (fun i => match (Clock.Marks c)[i]? with | some m => decide ((Mark.Cores m).length ≤ 8) | none => true) (Clock.Marks c).length with hp | ⟨k, hk, hp, hq⟩
    · refine .inl ⟨?_, by omega, fun i m hm => ?_⟩
      · have h1 := loop_all_t (f := r12_Short_L1 c) (n := (Clock.Marks c).length) (fun i hi => by
          have hlt : (i : Int) < ((Clock.Marks c).length : Int) := by omega
          have hw : w64 ((i : Int) + 1) = (i : Int) + 1 := w64_id (by omega) (by omega)
          have h3 := hp i hi
          simp only [List.getElem?_eq_getElem hi, decide_eq_true_eq] at h3
          have h4 : ¬ (8 : Int) < ((Mark.Cores (Clock.Marks c)[i]).length : Int) := by omega
          unfold r12_Short_L1
          simp only [hlt, getO_nat, List.getElem?_eq_getElem hi, hw, Option.bind_some, h4, decide_true, decide_false, if_true, Bool.false_eq_true, if_false]) (by
          unfold r12_Short_L1
          simp)
        unfold r12_Short
        simp only [h, decide_false, Bool.false_eq_true, if_false, h1, orExit_inl]
      · have hi : i < (Clock.Marks c).length := by
          rcases Nat.lt_or_ge i (Clock.Marks c).length with h3 | h3
          · exact h3
          · rw [List.getElem?_eq_none h3] at hm; cases hm
        have h3 := hp i hi
        simp only [hm, decide_eq_true_eq] at h3
        exact h3
    · refine .inr ?_
      have h1 := loop_to (f := r12_Short_L1 c) (fun i => (i : Int)) (n := 0) (m := k) (Nat.zero_le _) (fun i _ hi => by
        have hi' : i < (Clock.Marks c).length := by omega
        have hlt : (i : Int) < ((Clock.Marks c).length : Int) := by omega
        have hw : w64 ((i : Int) + 1) = ((i + 1 : Nat) : Int) := by rw [w64_id (by omega) (by omega)]; omega
        have h3 := hq i hi
        simp only [List.getElem?_eq_getElem hi', decide_eq_true_eq] at h3
        have h4 : ¬ (8 : Int) < ((Mark.Cores (Clock.Marks c)[i]).length : Int) := by omega
        unfold r12_Short_L1
        simp only [hlt, getO_nat, List.getElem?_eq_getElem hi', hw, Option.bind_some, h4, decide_true, decide_false, if_true, Bool.false_eq_true, if_false])
      have he : r12_Short_L1 c (k : Int) = some (.inr (.inr false)) := by
        have hlt : (k : Int) < ((Clock.Marks c).length : Int) := by omega
        simp only [List.getElem?_eq_getElem hk, decide_eq_false_iff_not] at hp
        have h4 : (8 : Int) < ((Mark.Cores (Clock.Marks c)[k]).length : Int) := by omega
        unfold r12_Short_L1
        simp only [hlt, getO_nat, List.getElem?_eq_getElem hk, Option.bind_some, h4, decide_true, if_true]
      have h0 : ((0 : Nat) : Int) = 0 := rfl
      rw [h0] at h1
      unfold r12_Short
      simp only [h, decide_false, Bool.false_eq_true, if_false, h1, loop_out he, orExit_inr]

end Go.Proofs.Ytklkpogdghiagaa
