/- Layer 12: the law ClockSure on typed data. -/
import Derived.Test.YtklkpogdghiagaaP12b
import Derived.Test.YtklkpogdghiagaaD123
set_option linter.unusedSimpArgs false
set_option linter.unusedVariables false
namespace Go.Proofs.Ytklkpogdghiagaa
open Go.SX

theorem rem3 {a : Int} (h0 : 0 ≤ a) : remO a 3 = some (a % 3) ∧ 0 ≤ a % 3 ∧ a % 3 < 3 := by
  refine ⟨?_, Int.emod_nonneg _ (by omega), Int.emod_lt_of_pos _ (by omega)⟩
  unfold remO
  rw [if_neg (by omega), Int.tmod_eq_emod_of_nonneg h0]

theorem tickL1 : clock_Tick_L1 = clock_Keep_L1 := rfl
theorem tickL2 : clock_Tick_L2 = clock_Keep_L1 := rfl

theorem rightL_snoc (x : Mark) : ∀ (l : List Mark) (s w : Int) (y : Mark), l[l.length - 1]? = some y → rightL (l ++ [x]) s w = (rightL l s w && !badM x (Mark.Span y) (Mark.When y))
  | [], s, w, y, h => by simp at h
  | [a], s, w, y, h => by
    simp at h
    subst h
    simp [rightL]
  | a :: b :: t, s, w, y, h => by
    have ih := rightL_snoc x (b :: t) (Mark.Span a) (Mark.When a) y (by simpa using h)
    have e : (a :: b :: t) ++ [x] = a :: ((b :: t) ++ [x]) := rfl
    rw [e]
    show (!badM a s w && rightL ((b :: t) ++ [x]) (Mark.Span a) (Mark.When a)) = ((!badM a s w && rightL (b :: t) (Mark.Span a) (Mark.When a)) && _)
    rw [ih, Bool.and_assoc]

/-- One mark more. -/
def ticked (c : Clock) (x : Mark) : Clock := Clock.mk (Clock.Marks c ++ [x]) (Clock.Wait c)

theorem clock_Tick_eq {c : Clock} (hr : rightB c = true) {now : Int} (ht : clock_time now = true) (sp : Int) :
    clock_Tick c sp now [] = some (if (Clock.Marks c).length = 8 then (c, 6) else if rightB (ticked c (Mark.mk sp now [])) = true then (ticked c (Mark.mk sp now []), 0) else (c, 1)) := by
  have hf := right_few hr
  obtain ⟨⟨h1, h2, h3, h4⟩, h5⟩ := rightB_iff.1 hr
  have hcp := copies hf
  have hm : clock_may c now = some true := by rw [clock_may_eq (by omega), hr, ht]; rfl
  have hcl : cloneO 48 ([] : List Core) = some [] := cloneO_ok (roomOk_of (by simp) (by simp))
  have hap : appO 40 (Clock.Marks c) ([Mark.mk sp now []] : List Mark) = some (Clock.Marks c ++ [Mark.mk sp now []]) :=
    appO_ok (roomOk_of (by simp only [List.length_singleton]; omega) (by simp only [List.length_singleton]; omega))
  have hR : clock_Right (Clock.mk (Clock.Marks c ++ [Mark.mk sp now []]) (Clock.Wait c)) = some (rightB (ticked c (Mark.mk sp now []))) :=
    clock_Right_eq (by simp only [Clock.Marks_mk, List.length_append, List.length_singleton]; omega)
  unfold clock_Tick
  rw [tickL1, tickL2]
  by_cases h8 : (Clock.Marks c).length = 8
  · have h8' : decide (((Clock.Marks c).length : Int) = 8) = true := decide_eq_true (by omega)
    simp only [hcp, Option.bind_some, hm, Bool.not_true, Bool.false_eq_true, if_false]
    rw [if_pos h8', if_pos h8]
    rfl
  · have h8' : ¬ ((Clock.Marks c).length : Int) = 8 := by omega
    simp only [hcp, Option.bind_some, hm, Bool.not_true, Bool.false_eq_true, if_false, h8', decide_false, Mark.Cores_mk, Mark.Span_mk, Mark.When_mk, hcl, hap, hR]
    rw [if_neg h8]
    cases hb : rightB (ticked c (Mark.mk sp now [])) with
    | true => rfl
    | false => rfl

theorem clock_Back_eq {c : Clock} (hr : rightB c = true) {now : Int} (ht : clock_time now = true) {m : Mark} (hm : (Clock.Marks c)[sureN c now]? = some m) :
    clock_Back c now = some (Clock.mk [m] (Clock.Wait c), m, 0) := by
  have hf := right_few hr
  obtain ⟨⟨h1, h2, h3, h4⟩, h5⟩ := rightB_iff.1 hr
  have hcp := copies hf
  have hy : clock_may c now = some true := by rw [clock_may_eq (by omega), hr, ht]; rfl
  have hs := sureN_lt h1 now
  have hix : idxO ((Clock.Marks c).length : Int) (sureN c now : Int) = some (sureN c now : Int) := idxO_lt (by omega) (by omega)
  have hc := hf.2 _ _ hm
  have hcl : cloneO 48 (Mark.Cores m) = some (Mark.Cores m) := cloneO_ok (roomOk_of (by omega) (by omega))
  unfold clock_Back
  simp only [hcp, Option.bind_some, hy, Bool.not_true, Bool.false_eq_true, if_false, clock_sure_eq (c := c) (by omega), hix, getO_nat, hm, hcl]
  rfl

/-- What holds between the rounds. -/
structure SureI (wait : Int) (i : Nat) (now span : Int) (c : Clock) (last : Mark) : Prop where
  right : rightB c = true
  wt : Clock.Wait c = wait + 1
  nowb : 0 ≤ now ∧ now ≤ 255 * i
  spb : 0 ≤ span ∧ span ≤ i
  mem : ∀ (j : Nat) (m : Mark), (Clock.Marks c)[j]? = some m → Mark.When m ≤ now ∧ Mark.Span m ≤ span
  lst : ∀ m, (Clock.Marks c)[sureN c now]? = some m → Mark.When last ≤ Mark.When m ∧ Mark.Span last ≤ Mark.Span m

theorem le_of_sure {c : Clock} (h : rightB c = true) {i j : Nat} {a b : Mark} (hij : i ≤ j) (ha : (Clock.Marks c)[i]? = some a) (hb : (Clock.Marks c)[j]? = some b) : Mark.When a ≤ Mark.When b ∧ Mark.Span a ≤ Mark.Span b := by
  obtain ⟨_, h5⟩ := rightB_iff.1 h
  rcases Nat.eq_or_lt_of_le hij with he | hlt
  · subst he
    rw [ha] at hb
    cases hb
    exact ⟨Int.le_refl _, Int.le_refl _⟩
  · have := rightL_lt h5 hlt ha hb
    omega

/-- The second half of a round. -/
theorem mid {wait now : Int} {c : Clock} {last m : Mark} (hw : 0 ≤ wait ∧ wait ≤ 255) (hr : rightB c = true) (wt : Clock.Wait c = wait + 1) (hn : 0 ≤ now ∧ now ≤ 30000)
    (hm : (Clock.Marks c)[sureN c now]? = some m) :
    clock_Sure c now = some (m, 0) ∧ clock_Right c = some true ∧ loopD (l12_ClockSure_L1 wait now c m) 0 = some (.inl ()) := by
  have hf := right_few hr
  obtain ⟨⟨h1, h2, h3, h4⟩, h5⟩ := rightB_iff.1 hr
  have ht : clock_time now = true := time_iff.2 (by omega)
  refine ⟨?_, by rw [clock_Right_eq (by omega), hr], ?_⟩
  · rw [clock_Sure_eq hf]; simp [hr, ht, hm]
  · refine loop_all_t (n := (Clock.Marks c).length) (fun i hi => ?_) ?_
    · have hlt : (i : Int) < ((Clock.Marks c).length : Int) := by omega
      have hw1 : w64 ((i : Int) + 1) = (i : Int) + 1 := w64_id (by omega) (by omega)
      obtain ⟨x, hx⟩ : ∃ x, (Clock.Marks c)[i]? = some x := ⟨_, List.getElem?_eq_getElem hi⟩
      have hxb := rightL_mem h5 hx
      have hw2 : w64 (now - Mark.When x) = now - Mark.When x := w64_id (by omega) (by omega)
      have hw3 : w64 wait = wait := w64_id (by omega) (by omega)
      unfold l12_ClockSure_L1
      by_cases hold : wait < now - Mark.When x
      · have hp : pS c now i = true := by
          rw [pS_iff hr ⟨by omega, by omega⟩ hx, decide_eq_true_eq]; omega
        have hle : i ≤ sureN c now := by
          rcases Nat.lt_or_ge (sureN c now) i with h6 | h6
          · have h7 := (lastB_spec (pS c now) (Clock.Marks c).length).2.2 i h6 hi
            rw [hp] at h7; cases h7
          · exact h6
        have hmm := le_of_sure hr hle hx hm
        have hng : ¬ Mark.When m < Mark.When x := by omega
        simp only [hlt, decide_true, if_true, getO_nat, hx, Option.bind_some, hw2, hw3, hold, hng, decide_false, Bool.false_eq_true, if_false, hw1]
      · simp only [hlt, decide_true, if_true, getO_nat, hx, Option.bind_some, hw2, hw3, hold, decide_false, Bool.false_eq_true, if_false, hw1]
    · unfold l12_ClockSure_L1
      simp

theorem sure_step {wait : Int} (hw : 0 ≤ wait ∧ wait ≤ 255) {l : List l12_Do} (hlm : l.length ≤ maxLen) (hl : ∀ d ∈ l, (0 ≤ l12_Do.Kind d ∧ l12_Do.Kind d ≤ 255) ∧ 0 ≤ l12_Do.More d ∧ l12_Do.More d ≤ 255)
    {i : Nat} (hi : i < l.length ∧ i < 100) {now span : Int} {c : Clock} {last : Mark} (I : SureI wait i now span c last) :
    ∃ now' span' c' last', l12_ClockSure_L2 wait l (now, span, (i : Int), c, last) = some (.inl (now', span', (i : Int) + 1, c', last')) ∧ SureI wait (i + 1) now' span' c' last' := by
  obtain ⟨hr, wt, nb, sb, hmem, hlst⟩ := I
  obtain ⟨⟨h1, h2, h3, h4⟩, h5⟩ := rightB_iff.1 hr
  have hf := right_few hr
  have hlt : (i : Int) < (l.length : Int) := by omega
  have hlt2 : (i : Int) < 100 := by omega
  have hw1 : w64 ((i : Int) + 1) = (i : Int) + 1 := w64_id (by omega) (by omega)
  obtain ⟨d, hd⟩ : ∃ d, l[i]? = some d := ⟨_, List.getElem?_eq_getElem hi.1⟩
  obtain ⟨⟨kd0, kd1⟩, md0, md1⟩ := hl d (List.mem_of_getElem? hd)
  have hwm : w64 (l12_Do.More d) = l12_Do.More d := w64_id (by omega) (by omega)
  obtain ⟨now', hnow⟩ : ∃ n, n = now + l12_Do.More d := ⟨_, rfl⟩
  have hwn : w64 (now + l12_Do.More d) = now' := by rw [hnow]; exact w64_id (by omega) (by omega)
  have hnb : 0 ≤ now' ∧ now' ≤ 255 * ((i + 1 : Nat) : Int) := by omega
  have hnb2 : 0 ≤ now' ∧ now' ≤ 30000 := by omega
  have hge : now ≤ now' := by omega
  have ht : clock_time now' = true := time_iff.2 (by omega)
  obtain ⟨r1, r2, r3⟩ := rem3 (a := l12_Do.Kind d) kd0
  have hws : w64 (span + 1) = span + 1 := w64_id (by omega) (by omega)
  have hs := sureN_lt h1 now'
  obtain ⟨m, hm⟩ : ∃ m, (Clock.Marks c)[sureN c now']? = some m := ⟨_, List.getElem?_eq_getElem hs⟩
  obtain ⟨m0, hm0⟩ : ∃ m, (Clock.Marks c)[sureN c now]? = some m := ⟨_, List.getElem?_eq_getElem (sureN_lt h1 now)⟩
  have hle := le_of_sure hr (sure_le hr nb.1 hge (by omega)) hm0 hm
  have hl0 := hlst m0 hm0
  have n1 : ¬ Mark.When m < Mark.When last := by omega
  have n2 : ¬ Mark.Span m < Mark.Span last := by omega
  have hmc := rightL_mem h5 hm
  have hmr : r12_Mark m m = some true := r12_Mark_refl (by omega)
  have hsure : clock_Sure c now' = some (m, 0) := (mid (last := last) hw hr wt hnb2 hm).1
  -- what is left to show of a clock
  have fin : ∀ (span' : Int) (c' : Clock), rightB c' = true → Clock.Wait c' = wait + 1 → (0 ≤ span' ∧ span' ≤ ((i + 1 : Nat) : Int)) → (∀ (j : Nat) (x : Mark), (Clock.Marks c')[j]? = some x → Mark.When x ≤ now' ∧ Mark.Span x ≤ span') →
      (Clock.Marks c')[sureN c' now']? = some m → SureI wait (i + 1) now' span' c' m := fun span' c' g1 g2 g3 g4 g5 =>
    ⟨g1, g2, hnb, g3, g4, fun x hx => by rw [g5] at hx; cases hx; exact ⟨Int.le_refl _, Int.le_refl _⟩⟩
  have hcond : (decide ((i : Int) < (l.length : Int)) && decide ((i : Int) < 100)) = true := by simp [hlt, hlt2]
  rcases (show l12_Do.Kind d % 3 = 0 ∨ l12_Do.Kind d % 3 = 1 ∨ l12_Do.Kind d % 3 = 2 by omega) with hk | hk | hk
  · -- one mark more
    rw [hk] at r1
    obtain ⟨y, hy⟩ : ∃ y, (Clock.Marks c)[(Clock.Marks c).length - 1]? = some y := ⟨_, List.getElem?_eq_getElem (by omega)⟩
    have hwl : w64 (((Clock.Marks c).length : Int) - 1) = (((Clock.Marks c).length - 1 : Nat) : Int) := by rw [w64_id (by omega) (by omega)]; omega
    have hwl2 : w64 (((Clock.Marks c).length : Int) + 1) = ((Clock.Marks c).length : Int) + 1 := w64_id (by omega) (by omega)
    have hym := hmem _ _ hy
    have hold : SureI wait (i + 1) now' span c m := fin span c hr wt (by omega) (fun j x hx => by have := hmem j x hx; omega) hm
    obtain ⟨q1, q2, q3⟩ := mid (last := last) hw hr wt hnb2 hm
    have hT := clock_Tick_eq hr ht (span + 1)
    by_cases h8 : (Clock.Marks c).length = 8
    · rw [if_pos h8] at hT
      have h8' : ¬ ((Clock.Marks c).length : Int) < 8 := by omega
      refine ⟨now', span, c, m, ?_, hold⟩
      unfold l12_ClockSure_L2
      simp only [hcond, if_true]
      simp [getO_nat, hd, hwm, hwn, r1, hws, hT, h8', q1, q2, q3, n1, n2, hw1]
    · rw [if_neg h8] at hT
      have h8' : ((Clock.Marks c).length : Int) < 8 := by omega
      by_cases hroom : Mark.When y < now'
      · have hb : badM (Mark.mk (span + 1) now' []) (Mark.Span y) (Mark.When y) = false := badM_iff.2 (by
          simp only [Mark.Span_mk, Mark.When_mk, Mark.Cores_mk, List.length_nil]
          omega)
        have hrt : rightB (ticked c (Mark.mk (span + 1) now' [])) = true := rightB_iff.2 ⟨by
          simp only [ticked, Clock.Marks_mk, Clock.Wait_mk, List.length_append, List.length_singleton]
          omega, by
          simp only [ticked, Clock.Marks_mk]
          rw [rightL_snoc _ _ _ _ y hy, h5, hb]
          rfl⟩
        rw [if_pos hrt] at hT
        have hlen : (Clock.Marks (ticked c (Mark.mk (span + 1) now' []))).length = (Clock.Marks c).length + 1 := by simp [ticked]
        have hwt : Clock.Wait (ticked c (Mark.mk (span + 1) now' [])) = wait + 1 := by rw [← wt]; rfl
        have hget : ∀ j, j < (Clock.Marks c).length → (Clock.Marks (ticked c (Mark.mk (span + 1) now' [])))[j]? = (Clock.Marks c)[j]? := fun j hj => by
          simp only [ticked, Clock.Marks_mk]
          rw [List.getElem?_append_left hj]
        have hgl : (Clock.Marks (ticked c (Mark.mk (span + 1) now' [])))[(Clock.Marks c).length]? = some (Mark.mk (span + 1) now' []) := by
          simp [ticked]
        have hsn : sureN (ticked c (Mark.mk (span + 1) now' [])) now' = sureN c now' := by
          obtain ⟨g1, g2, g3⟩ := lastB_spec (pS c now') (Clock.Marks c).length
          have hpp : ∀ j, j < (Clock.Marks c).length → pS (ticked c (Mark.mk (span + 1) now' [])) now' j = pS c now' j := fun j hj => by
            unfold pS
            rw [hget j hj]
            rfl
          have hs' : lastB (pS c now') (Clock.Marks c).length < (Clock.Marks c).length := hs
          unfold sureN
          rw [hlen]
          refine lastB_unique ?_ (by omega) fun j hj hj' => ?_
          · rcases g1 with g1 | g1
            · exact .inl g1
            · refine .inr ?_
              rw [hpp _ hs']
              exact g1
          · rcases Nat.lt_or_ge j (Clock.Marks c).length with h6 | h6
            · rw [hpp j h6]
              exact g3 j hj h6
            · have : j = (Clock.Marks c).length := by omega
              subst this
              rw [pS_iff hrt ⟨by omega, by omega⟩ hgl, decide_eq_false_iff_not, hwt, Mark.When_mk]
              omega
        have hm' : (Clock.Marks (ticked c (Mark.mk (span + 1) now' [])))[sureN (ticked c (Mark.mk (span + 1) now' [])) now']? = some m := by
          rw [hsn, hget _ hs, hm]
        obtain ⟨q1, q2, q3⟩ := mid (last := last) hw hrt hwt hnb2 hm'
        have hlen' : ((Clock.Marks (ticked c (Mark.mk (span + 1) now' []))).length : Int) = ((Clock.Marks c).length : Int) + 1 := by omega
        refine ⟨now', span + 1, ticked c (Mark.mk (span + 1) now' []), m, ?_, fin _ _ hrt hwt (by omega) (fun j x hx => ?_) hm'⟩
        · unfold l12_ClockSure_L2
          simp only [hcond, if_true]
          simp [getO_nat, hd, hwm, hwn, r1, hws, hT, h8', hwl, hy, hroom, hlen', hwl2, q1, q2, q3, n1, n2, hw1]
        · rcases Nat.lt_or_ge j (Clock.Marks c).length with h6 | h6
          · rw [hget j h6] at hx
            have := hmem j x hx
            omega
          · have hj : j < (Clock.Marks (ticked c (Mark.mk (span + 1) now' []))).length := by
              rcases Nat.lt_or_ge j (Clock.Marks (ticked c (Mark.mk (span + 1) now' []))).length with h7 | h7
              · exact h7
              · rw [List.getElem?_eq_none h7] at hx; cases hx
            have : j = (Clock.Marks c).length := by omega
            subst this
            rw [hgl] at hx
            cases hx
            simp
      · have hrt : rightB (ticked c (Mark.mk (span + 1) now' [])) = false := by
          rcases Bool.eq_false_or_eq_true (rightB (ticked c (Mark.mk (span + 1) now' []))) with hq | hq
          · exfalso
            have h6 := (rightB_iff.1 hq).2
            simp only [ticked, Clock.Marks_mk] at h6
            rw [rightL_snoc _ _ _ _ y hy, h5, Bool.true_and, Bool.not_eq_true'] at h6
            have := badM_iff.1 h6
            simp only [Mark.When_mk] at this
            omega
          · exact hq
        rw [hrt] at hT
        simp only [Bool.false_eq_true, if_false] at hT
        refine ⟨now', span, c, m, ?_, hold⟩
        unfold l12_ClockSure_L2
        simp only [hcond, if_true]
        simp [getO_nat, hd, hwm, hwn, r1, hws, hT, h8', hwl, hy, hroom, q1, q2, q3, n1, n2, hw1]
  · -- elder ones go
    rw [hk] at r1
    have hkr := kept_right hr hs
    have hK : clock_Keep c now' = some (kept c (sureN c now'), 0) := by
      rw [clock_Keep_eq hf]; simp [hr, ht, kept]
    have e2 : sureN (kept c (sureN c now')) now' = 0 := by rw [kept_sure (Nat.le_refl _) h1]; omega
    have hget : ∀ j, (Clock.Marks (kept c (sureN c now')))[j]? = (Clock.Marks c)[sureN c now' + j]? := fun j => by
      simp only [kept, Clock.Marks_mk, List.getElem?_drop]
    have hm' : (Clock.Marks (kept c (sureN c now')))[sureN (kept c (sureN c now')) now']? = some m := by
      rw [e2, hget, Nat.add_zero, hm]
    have hm0' : getO (Clock.Marks (kept c (sureN c now'))) 0 = some m := by
      have := getO_nat (Clock.Marks (kept c (sureN c now'))) 0
      rw [e2] at hm'
      rw [← hm', ← this]
      rfl
    have hne : ¬ Clock.Marks (kept c (sureN c now')) = [] := fun h6 => by
      rw [h6] at hm'; simp at hm'
    obtain ⟨q1, q2, q3⟩ := mid (last := last) (c := kept c (sureN c now')) hw hkr (by rw [← wt]; rfl) hnb2 hm'
    refine ⟨now', span, kept c (sureN c now'), m, ?_, fin _ _ hkr (by rw [← wt]; rfl) (by omega) (fun j x hx => ?_) hm'⟩
    · unfold l12_ClockSure_L2
      simp only [hcond, if_true]
      simp [getO_nat, hd, hwm, hwn, r1, hK, hne, hsure, hm0', hmr, q1, q2, q3, n1, n2, hw1]
    · rw [hget] at hx
      have := hmem _ x hx
      omega
  · -- back
    rw [hk] at r1
    have hB := clock_Back_eq hr ht hm
    have hbr : rightB (Clock.mk [m] (Clock.Wait c)) = true := rightB_iff.2 ⟨by simp only [Clock.Marks_mk, Clock.Wait_mk, List.length_singleton]; omega, by
      simp only [Clock.Marks_mk]
      exact rightL_cons.2 ⟨badM_iff.2 hmc, rfl⟩⟩
    have e2 : sureN (Clock.mk [m] (Clock.Wait c)) now' = 0 := by
      have := sureN_lt (rightB_iff.1 hbr).1.1 now'
      simp only [Clock.Marks_mk, List.length_singleton] at this
      omega
    have hm' : (Clock.Marks (Clock.mk [m] (Clock.Wait c)))[sureN (Clock.mk [m] (Clock.Wait c)) now']? = some m := by
      rw [e2]; rfl
    have hg0 : getO [m] (0 : Int) = some m := rfl
    obtain ⟨q1, q2, q3⟩ := mid (last := last) (c := Clock.mk [m] (Clock.Wait c)) hw hbr wt hnb2 hm'
    refine ⟨now', span, Clock.mk [m] (Clock.Wait c), m, ?_, fin _ _ hbr wt (by omega) (fun j x hx => ?_) hm'⟩
    · unfold l12_ClockSure_L2
      simp only [hcond, if_true]
      simp [getO_nat, hd, hwm, hwn, r1, hsure, hB, hg0, hmr, q1, q2, q3, n1, n2, hw1]
    · have hj : j = 0 := by
        rcases Nat.eq_zero_or_pos j with h6 | h6
        · exact h6
        · rw [List.getElem?_eq_none (by simp only [Clock.Marks_mk, List.length_singleton]; omega)] at hx
          cases hx
      subst hj
      simp only [Clock.Marks_mk, List.getElem?_cons_zero, Option.some.injEq] at hx
      subst hx
      have := hmem _ m hm
      omega

theorem clockSure_all (wait : Int) (l : List l12_Do) (hw : 0 ≤ wait ∧ wait ≤ 255) (hlm : l.length ≤ maxLen) (hl : ∀ d ∈ l, (0 ≤ l12_Do.Kind d ∧ l12_Do.Kind d ≤ 255) ∧ 0 ≤ l12_Do.More d ∧ l12_Do.More d ≤ 255) : l12_ClockSure wait l = some true := by
  have hw1 : w64 wait = wait := w64_id (by omega) (by omega)
  have hw2 : w64 (wait + 1) = wait + 1 := w64_id (by omega) (by omega)
  have hr0 : rightB (Clock.mk [Mark.mk 0 0 []] (wait + 1)) = true := rightB_iff.2 ⟨by simp only [Clock.Marks_mk, Clock.Wait_mk, List.length_singleton]; omega, by
    simp only [Clock.Marks_mk]
    exact rightL_cons.2 ⟨badM_iff.2 (by simp only [Mark.Span_mk, Mark.When_mk, Mark.Cores_mk, List.length_nil]; omega), rfl⟩⟩
  have hcl : cloneO 48 ([] : List Core) = some [] := cloneO_ok (roomOk_of (by simp) (by simp))
  have hR0 : clock_Right (Clock.mk [Mark.mk 0 0 []] (wait + 1)) = some true := by
    rw [clock_Right_eq (by simp), hr0]
  have hnew : clock_New (wait + 1) [] = some (Clock.mk [Mark.mk 0 0 []] (wait + 1), 0) := by
    unfold clock_New
    simp only [Mark.Cores_mk, Mark.Span_mk, Mark.When_mk, hcl, Option.bind_some, hR0, Bool.not_true, Bool.false_eq_true, if_false]
  have I0 : SureI wait 0 0 0 (Clock.mk [Mark.mk 0 0 []] (wait + 1)) (Mark.mk 0 0 []) := by
    have hs := sureN_lt (rightB_iff.1 hr0).1.1 0
    simp only [Clock.Marks_mk, List.length_singleton] at hs
    have e2 : sureN (Clock.mk [Mark.mk 0 0 []] (wait + 1)) 0 = 0 := by omega
    refine ⟨hr0, rfl, by omega, by omega, fun j m hm => ?_, fun m hm => ?_⟩
    · have := rightL_mem (rightB_iff.1 hr0).2 hm
      rcases Nat.eq_zero_or_pos j with h6 | h6
      · subst h6
        simp only [Clock.Marks_mk, List.getElem?_cons_zero, Option.some.injEq] at hm
        subst hm
        simp
      · rw [List.getElem?_eq_none (by simp only [Clock.Marks_mk, List.length_singleton]; omega)] at hm
        cases hm
    · rw [e2] at hm
      simp only [Clock.Marks_mk, List.getElem?_cons_zero, Option.some.injEq] at hm
      subst hm
      simp
  have hloop := loop_rule (f := l12_ClockSure_L2 wait l)
    (I := fun s => ∃ i : Nat, s.2.2.1 = (i : Int) ∧ i ≤ l.length ∧ i ≤ 100 ∧ SureI wait i s.1 s.2.1 s.2.2.2.1 s.2.2.2.2)
    (μ := fun s => l.length - s.2.2.1.toNat) (Q := fun r => r = .inl ()) (fun s ⟨i, s1, s2, s3, inv⟩ => by
      obtain ⟨now, span, ii, c, last⟩ := s
      simp only at s1 s2 s3 inv
      subst s1
      by_cases hil : i < l.length ∧ i < 100
      · obtain ⟨now', span', c', last', e1, e2⟩ := sure_step hw hlm hl hil inv
        refine .inl ⟨_, e1, ⟨i + 1, by simp, by omega, by omega, e2⟩, ?_⟩
        simp only
        omega
      · refine .inr ⟨.inl (), ?_, rfl⟩
        have hc : (decide ((i : Int) < (l.length : Int)) && decide ((i : Int) < 100)) = false := by
          rw [Bool.and_eq_false_iff, decide_eq_false_iff_not, decide_eq_false_iff_not]; omega
        unfold l12_ClockSure_L2
        simp only [hc, Bool.false_eq_true, if_false]) (s := ((0 : Int), (0 : Int), (0 : Int), Clock.mk [Mark.mk 0 0 []] (wait + 1), Mark.mk 0 0 [])) ⟨0, rfl, Nat.zero_le _, Nat.zero_le _, I0⟩
  obtain ⟨r', hr1, hr2⟩ := hloop
  subst hr2
  unfold l12_ClockSure
  simp [l12_awake, hw1, hw2, hnew, hr1]

theorem clockSure_ok (x : Ty.Tup F_l12_ClockSure.ps) (h : OkL F_l12_ClockSure.ps x) : F_l12_ClockSure.sem x = some true :=
  clockSure_all x.1 x.2 h.1 h.2.1 fun d hd => ⟨(h.2.2 d hd).1, (h.2.2 d hd).2⟩

end Go.Proofs.Ytklkpogdghiagaa
