/- Layer 4: a step by the program; the law AtomTurns on typed data. -/
import Derived.Test.YtihchahfnhoapaaPR04s
import Derived.Test.YtihchahfnhoapaaD044
set_option linter.unusedSimpArgs false
set_option linter.unusedVariables false
namespace Go.Proofs.Ytihchahfnhoapaa
open Go.SX

/-! ### Two steps in either order -/
theorem actS_apart {mem : List Int} {v w : Want} (h : Want.At v ≠ Want.At w) : (actS (actS mem v).1 w).2 = (actS mem w).2 ∧ (actS (actS mem v).1 w).1 = (actS (actS mem w).1 v).1 := by
  have hl := actS_len mem v
  have hl2 := actS_len mem w
  have ok1 : actOk (actS mem v).1 w = actOk mem w := by unfold actOk; rw [hl]
  have ok2 : actOk (actS mem w).1 v = actOk mem v := by unfold actOk; rw [hl2]
  have key : ∀ (v w : Want), Want.At v ≠ Want.At w → actOk mem w = true → wasAt (actS mem v).1 w = wasAt mem w := fun v w h hw => by
    unfold actOk at hw
    simp only [Bool.and_eq_true, decide_eq_true_eq] at hw
    unfold actS
    split
    · rename_i hv
      unfold actOk at hv
      simp only [Bool.and_eq_true, decide_eq_true_eq] at hv
      dsimp only
      split
      · unfold wasAt
        rw [List.getElem?_set_ne (by omega)]
      · rfl
    · rfl
  by_cases hw : actOk mem w = true
  · have e1 := key v w h hw
    by_cases hv : actOk mem v = true
    · have e2 := key w v (fun q => h q.symm) hv
      constructor
      · rw [actS_on (mem := (actS mem v).1) (w := w) (by rw [ok1]; exact hw), e1, actS_on hw]
      · rw [actS_on (mem := (actS mem v).1) (w := w) (by rw [ok1]; exact hw), actS_on (mem := (actS mem w).1) (w := v) (by rw [ok2]; exact hv), e1, e2, actS_on hw, actS_on hv]
        dsimp only
        unfold actOk at hw hv
        simp only [Bool.and_eq_true, decide_eq_true_eq] at hw hv
        have hne : (Want.At v).toNat ≠ (Want.At w).toNat := by omega
        split <;> split
        · exact List.set_comm _ _ hne
        · rfl
        · rfl
        · rfl
    · have hvs : ∀ m : List Int, actOk m v = false → actS m v = (m, 0) := fun m hm => by unfold actS; rw [hm, if_neg (by simp)]
      have hv' : actOk mem v = false := Bool.eq_false_iff.2 hv
      rw [hvs mem hv', hvs (actS mem w).1 (by rw [ok2]; exact hv')]
      exact ⟨rfl, rfl⟩
  · have hws : ∀ m : List Int, actOk m w = false → actS m w = (m, 0) := fun m hm => by unfold actS; rw [hm, if_neg (by simp)]
    have hw' : actOk mem w = false := Bool.eq_false_iff.2 hw
    rw [hws mem hw', hws (actS mem v).1 (by rw [ok1]; exact hw')]
    exact ⟨rfl, rfl⟩

def apartW (v w : Want) : Prop := (¬ (1 ≤ Want.Kind v ∧ Want.Kind v ≤ 3)) ∨ (¬ (1 ≤ Want.Kind w ∧ Want.Kind w ≤ 3)) ∨ Want.At v ≠ Want.At w ∨ (Want.Kind v = 1 ∧ Want.Kind w = 1)
theorem apart_sym {v w : Want} (h : apartW v w) : apartW w v := by
  rcases h with h | h | h | h
  · exact .inr (.inl h)
  · exact .inl h
  · exact .inr (.inr (.inl fun q => h q.symm))
  · exact .inr (.inr (.inr ⟨h.2, h.1⟩))
theorem act_turn {mem : List Int} {v w : Want} (h : apartW v w) : (actS (actS mem v).1 w).2 = (actS mem w).2 ∧ (actS (actS mem v).1 w).1 = (actS (actS mem w).1 v).1 := by
  rcases h with h | h | h | h
  · rw [actS_rest h]
    exact ⟨rfl, by rw [actS_rest h]⟩
  · rw [actS_rest h, actS_rest h]
    exact ⟨rfl, rfl⟩
  · exact actS_apart h
  · rw [actS_read h.1, actS_read h.2]
    exact ⟨rfl, (actS_read h.1).symm⟩

theorem steps_turn {ps : List (List Ins)} {a : Atom} {n k : Nat} (hnk : n ≠ k) (hn : n < (Atom.Cores a).length) (hk : k < (Atom.Cores a).length) (h1 : apartW (wantA ps a n) (wantA ps a k)) (h2 : ¬ (Want.Kind (wantA ps a n) = 4 ∧ Want.Kind (wantA ps a k) = 4)) :
    stepA ps (stepA ps a n) k = stepA ps (stepA ps a k) n := by
  have w1 : wantA ps (stepA ps a n) k = wantA ps a k := by
    unfold wantA
    have e1 : coreAt (Atom.Cores (stepA ps a n)) k = coreAt (Atom.Cores a) k := coreAt_set_ne hnk _
    rw [e1, (step_lens ps a n).1]
  have w2 : wantA ps (stepA ps a k) n = wantA ps a n := by
    unfold wantA
    have e1 : coreAt (Atom.Cores (stepA ps a k)) n = coreAt (Atom.Cores a) n := coreAt_set_ne (fun q => hnk q.symm) _
    rw [e1, (step_lens ps a k).1]
  have c1 : coreAt (Atom.Cores (stepA ps a n)) k = coreAt (Atom.Cores a) k := coreAt_set_ne hnk _
  have c2 : coreAt (Atom.Cores (stepA ps a k)) n = coreAt (Atom.Cores a) n := coreAt_set_ne (fun q => hnk q.symm) _
  have m1 : Atom.Mem (stepA ps a n) = (actS (Atom.Mem a) (wantA ps a n)).1 := rfl
  have m2 : Atom.Mem (stepA ps a k) = (actS (Atom.Mem a) (wantA ps a k)).1 := rfl
  obtain ⟨t1, t2⟩ := act_turn (mem := Atom.Mem a) h1
  obtain ⟨t3, t4⟩ := act_turn (mem := Atom.Mem a) (apart_sym h1)
  have e : ∀ (b : Atom) (j : Nat), stepA ps b j = Atom.mk (actS (Atom.Mem b) (wantA ps b j)).1 ((Atom.Cores b).set j (doneF (progAt ps j) (coreAt (Atom.Cores b) j) (actS (Atom.Mem b) (wantA ps b j)).2))
    (if Want.Kind (wantA ps b j) = 4 then Atom.Outs b ++ [Told.mk (j : Int) (Want.Val (wantA ps b j))] else Atom.Outs b) := fun b j => rfl
  rw [e (stepA ps a n) k, e (stepA ps a k) n, w1, w2, c1, c2, m1, m2, t1, t2, t3]
  have o1 : Atom.Outs (stepA ps a n) = if Want.Kind (wantA ps a n) = 4 then Atom.Outs a ++ [Told.mk (n : Int) (Want.Val (wantA ps a n))] else Atom.Outs a := rfl
  have o2 : Atom.Outs (stepA ps a k) = if Want.Kind (wantA ps a k) = 4 then Atom.Outs a ++ [Told.mk (k : Int) (Want.Val (wantA ps a k))] else Atom.Outs a := rfl
  have s1 : Atom.Cores (stepA ps a n) = (Atom.Cores a).set n (doneF (progAt ps n) (coreAt (Atom.Cores a) n) (actS (Atom.Mem a) (wantA ps a n)).2) := rfl
  have s2 : Atom.Cores (stepA ps a k) = (Atom.Cores a).set k (doneF (progAt ps k) (coreAt (Atom.Cores a) k) (actS (Atom.Mem a) (wantA ps a k)).2) := rfl
  rw [o1, o2, s1, s2, List.set_comm _ _ hnk]
  by_cases k4 : Want.Kind (wantA ps a k) = 4
  · have n4 : ¬ Want.Kind (wantA ps a n) = 4 := fun q => h2 ⟨q, k4⟩
    rw [if_pos k4, if_neg n4, if_neg n4, if_pos k4]
  · rw [if_neg k4, if_neg k4]

theorem atomTurns_all (ps : List (List Ins)) (words : Int) (picks : List Int) (x y : Int) (hK : ∀ p ∈ ps, insOk p) (hw : 0 ≤ words ∧ words < 256) (hx : 0 ≤ x ∧ x < 256) (hy : 0 ≤ y ∧ y < 256) : l04_AtomTurns ps words picks x y = some true := by
  unfold l04_AtomTurns
  rw [r02_Short_eq]
  cases hs : shortP ps
  · rfl
  have hps := short_ok hs hK
  by_cases hp : (100 : Int) < (picks.length : Int)
  · simp [l04_awake, hp]
  have hp1 : picks.length ≤ 1000 := by omega
  obtain ⟨r1, a1, b1⟩ := rem_pos hw.1 (show (0 : Int) < 64 by omega)
  have hw2 : w64 (w64 (words % 64) + 1) = words % 64 + 1 := by rw [w64_id (n := words % 64) (by omega) (by omega), w64_id (by omega) (by omega)]
  simp only [l04_awake, Bool.not_true, Bool.false_eq_true, if_false, Option.bind_some, hp, decide_false, r1, hw2, atom_Run_eq hps (words % 64 + 1) hp1]
  cases hn : newOk ps (words % 64 + 1)
  · simp only [Bool.false_eq_true, if_false, show ¬ (1 : Int) = 0 by omega, decide_false, Bool.not_false, if_true]
  · obtain ⟨g1, g2, g3, g4, g5⟩ := small_run' hps hn picks hp1
    obtain ⟨a, ha⟩ : ∃ a, a = runS ps (newA ps (words % 64 + 1)) picks := ⟨_, rfl⟩
    rw [← ha] at g1 g2 g3 g4
    obtain ⟨n, n1, n2⟩ := rem_nat x hx ps.length g5
    obtain ⟨k, k1, k2⟩ := rem_nat y hy ps.length g5
    obtain ⟨p1, p2⟩ := progAt_get n2
    obtain ⟨q1, q2⟩ := progAt_get k2
    have hnc : n < (Atom.Cores a).length := by omega
    have hkc : k < (Atom.Cores a).length := by omega
    obtain ⟨c1, c2⟩ := coreAt_get hnc
    obtain ⟨d1, d2⟩ := coreAt_get hkc
    obtain ⟨m1, m2⟩ := hps.2 _ p2
    obtain ⟨m3, m4⟩ := hps.2 _ q2
    have hml := g1.ml
    have v1 : core_Wants (progAt ps n) (coreAt (Atom.Cores a) n) (List.length (Atom.Mem a) : Int) = some (wantA ps a n) := core_Wants_all (by omega) (g1.regs _ c2) (by omega)
    have v2 : core_Wants (progAt ps k) (coreAt (Atom.Cores a) k) (List.length (Atom.Mem a) : Int) = some (wantA ps a k) := core_Wants_all (by omega) (g1.regs _ d2) (by omega)
    rw [← ha]
    simp only [if_true, decide_true, Bool.not_true, Bool.false_eq_true, if_false, n1, k1, p1, q1, c1, d1, v1, v2, Option.bind_some]
    obtain ⟨v, hv⟩ : ∃ v, v = wantA ps a n := ⟨_, rfl⟩
    obtain ⟨w, hwv⟩ : ∃ w, w = wantA ps a k := ⟨_, rfl⟩
    rw [← hv, ← hwv]
    have fin : ((n : Int) ≠ (k : Int) → apartW v w ∧ ¬ (Want.Kind v = 4 ∧ Want.Kind w = 4) → (
          (atom_Step ps a (n : Int)).bind fun v35 =>
          (atom_Step ps v35.1 (k : Int)).bind fun v37 =>
          (atom_Step ps a (k : Int)).bind fun v39 =>
          (atom_Step ps v39.1 (n : Int)).bind fun v41 =>
          (r04_Same v37.1 v41.1).bind fun v43 =>
          some (v43)) = some true) := fun hne hap => by
      have hnk : n ≠ k := fun q => hne (by rw [q])
      have o1 := step_ok hps g1 n2 hnc
      have o2 := step_ok hps g1 k2 hkc
      obtain ⟨l1, l2, l3⟩ := step_lens ps a n
      obtain ⟨l4, l5, l6⟩ := step_lens ps a k
      have t := steps_turn (ps := ps) hnk hnc hkc (by rw [← hv, ← hwv]; exact hap.1) (by rw [← hv, ← hwv]; exact hap.2)
      have o3 := step_ok hps o1 k2 (by omega)
      obtain ⟨l7, l8, l9⟩ := step_lens ps (stepA ps a n) k
      simp only [atom_Step_eq hps g1 (by omega) g4 n2, atom_Step_eq hps g1 (by omega) g4 k2, Option.bind_some, atom_Step_eq hps o1 (by omega) (step_right hps g1 g4 n2) k2, atom_Step_eq hps o2 (by omega) (step_right hps g1 g4 k2) n2, ← t, r04_Same_refl _ (small_of o3 (by omega))]
    by_cases hne : (n : Int) = (k : Int)
    · simp only [hne, decide_true, Bool.true_or, if_true]
    · have fin' := fin hne
      simp only [hne, decide_false, Bool.false_or]
      by_cases tc : 1 ≤ Want.Kind v ∧ Want.Kind v ≤ 3 ∧ 1 ≤ Want.Kind w ∧ Want.Kind w ≤ 3 ∧ Want.At v = Want.At w
      · have htc : ((decide ((1 : Int) ≤ (Want.Kind v))) && ((decide ((Want.Kind v) ≤ (3 : Int))) && ((decide ((1 : Int) ≤ (Want.Kind w))) && ((decide ((Want.Kind w) ≤ (3 : Int))) && (decide ((Want.At v) = (Want.At w))))))) = true := by
          simp only [Bool.and_eq_true, decide_eq_true_eq]; exact tc
        simp only [htc, cond_true]
        by_cases wr : Want.Kind v = 1 ∧ Want.Kind w = 1
        · have : (((decide ((Want.Kind v) = (2 : Int))) || ((decide ((Want.Kind v) = (3 : Int))) || ((decide ((Want.Kind w) = (2 : Int))) || (decide ((Want.Kind w) = (3 : Int)))))) || ((decide ((Want.Kind v) = (4 : Int))) && (decide ((Want.Kind w) = (4 : Int))))) = false := by
            rw [wr.1, wr.2]; decide
          rw [this, if_neg (by simp)]
          exact fin' ⟨.inr (.inr (.inr wr)), by omega⟩
        · have : (((decide ((Want.Kind v) = (2 : Int))) || ((decide ((Want.Kind v) = (3 : Int))) || ((decide ((Want.Kind w) = (2 : Int))) || (decide ((Want.Kind w) = (3 : Int)))))) || ((decide ((Want.Kind v) = (4 : Int))) && (decide ((Want.Kind w) = (4 : Int))))) = true := by
            simp only [Bool.or_eq_true, Bool.and_eq_true, decide_eq_true_eq]
            omega
          rw [this, if_pos rfl]
      · have htc : ((decide ((1 : Int) ≤ (Want.Kind v))) && ((decide ((Want.Kind v) ≤ (3 : Int))) && ((decide ((1 : Int) ≤ (Want.Kind w))) && ((decide ((Want.Kind w) ≤ (3 : Int))) && (decide ((Want.At v) = (Want.At w))))))) = false := by
          rw [Bool.eq_false_iff]
          intro q
          simp only [Bool.and_eq_true, decide_eq_true_eq] at q
          exact tc q
        simp only [htc, cond_false]
        by_cases tl : Want.Kind v = 4 ∧ Want.Kind w = 4
        · have : ((decide ((Want.Kind v) = (4 : Int))) && (decide ((Want.Kind w) = (4 : Int)))) = true := by
            rw [tl.1, tl.2]; decide
          rw [this, if_pos rfl]
        · have : ((decide ((Want.Kind v) = (4 : Int))) && (decide ((Want.Kind w) = (4 : Int)))) = false := by
            rw [Bool.eq_false_iff]
            intro q
            simp only [Bool.and_eq_true, decide_eq_true_eq] at q
            exact tl q
          rw [this, if_neg (by simp)]
          refine fin' ⟨?_, tl⟩
          by_cases q1 : 1 ≤ Want.Kind v ∧ Want.Kind v ≤ 3
          · by_cases q2 : 1 ≤ Want.Kind w ∧ Want.Kind w ≤ 3
            · exact .inr (.inr (.inl fun q3 => tc ⟨q1.1, q1.2, q2.1, q2.2, q3⟩))
            · exact .inr (.inl q2)
          · exact .inl q1

theorem atomTurns_ok (x : Ty.Tup F_l04_AtomTurns.ps) (h : OkL F_l04_AtomTurns.ps x) : F_l04_AtomTurns.sem x = some true :=
  atomTurns_all x.1 x.2.1 x.2.2.1 x.2.2.2.1 x.2.2.2.2 (fun p hp y hy => by
    have := ((h.1.2 p hp).2 y hy).2.2.2.2
    exact ⟨this.1, Int.lt_of_le_of_lt this.2 (by decide)⟩)
    ⟨h.2.1.1, Int.lt_of_le_of_lt h.2.1.2 (by decide)⟩ ⟨h.2.2.2.1.1, Int.lt_of_le_of_lt h.2.2.2.1.2 (by decide)⟩ ⟨h.2.2.2.2.1, Int.lt_of_le_of_lt h.2.2.2.2.2 (by decide)⟩

end Go.Proofs.Ytihchahfnhoapaa
