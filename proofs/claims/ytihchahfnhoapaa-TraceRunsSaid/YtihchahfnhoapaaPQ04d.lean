/- Layer 4: a step by the program; the law AtomTurns on typed data. -/
import Derived.Test.YtihchahfnhoapaaPQ04b
--
set_option linter.unusedSimpArgs false
set_option linter.unusedVariables false
namespace Go.Proofs.Ytihchahfnhoapaa
open Go.SX

theorem atom_Step_form (p0 : List (List Ins)) (p1 : Atom) (p2 : Int) : atom_Step p0 p1 p2 =
  ((
    (cloneO 4 (Atom.Mem p1)).bind fun v4 =>
    (cloneO 48 (Atom.Cores p1)).bind fun v6 =>
    (cloneO 16 (Atom.Outs p1)).bind fun v8 =>
    some ((v4, v6, v8)) : Option ((List Int) × (List Core) × (List Told))).bind fun v3 =>
  (
    (atom_Right p0 p1).bind fun v6 =>
    if !v6 then
      some (true)
    else
      if decide (p2 < (0 : Int)) then
        some (true)
      else
        some ((decide ((List.length (Atom.Cores p1) : Int) ≤ p2))) : Option Bool).bind fun v6 =>
  if v6 then
    some ((Atom.mk v3.1 v3.2.1 v3.2.2, (1 : Int)))
  else
    (
      (getO p0 p2).bind fun v7 =>
      (idxO (List.length v3.2.1 : Int) p2).bind fun v8 =>
      (getO v3.2.1 v8).bind fun v9 =>
      (core_Wants v7 v9 (List.length v3.1 : Int)).bind fun v11 =>
      (
        if decide ((Want.Kind v11) = (4 : Int)) then
          (appO 16 v3.2.2 ([Told.mk p2 (Want.Val v11)] : List Told)).bind fun v17 =>
          some (v17)
        else
          some (v3.2.2) : Option (List Told)).bind fun v14 =>
      (getO p0 p2).bind fun v15 =>
      (idxO (List.length v3.2.1 : Int) p2).bind fun v16 =>
      (getO v3.2.1 v16).bind fun v17 =>
      (actI v3.1 v11).bind fun v18 =>
      (core_Done v15 v17 v18.1).bind fun v20 =>
      (idxO (List.length v3.2.1 : Int) p2).bind fun v21 =>
      (setO v3.2.1 v21 v20).bind fun v22 =>
      some ((v18.2, v22, v14)) : Option ((List Int) × (List Core) × (List Told))).bind fun v7 =>
    some ((Atom.mk v7.1 v7.2.1 v7.2.2, (0 : Int)))) := rfl

theorem atom_Step_eq {ps : List (List Ins)} (hps : progsOk ps) {a : Atom} (ha : AOk a) (ho : (Atom.Outs a).length ≤ 100000) (hr : rightA ps a = true) {n : Nat} (hn : n < ps.length) : atom_Step ps a (n : Int) = some (stepA ps a n, 0) := by
  have hl : (Atom.Cores a).length = ps.length := by
    unfold rightA at hr
    simp only [Bool.and_eq_true, decide_eq_true_eq] at hr
    exact hr.2.2.1
  have hc : n < (Atom.Cores a).length := by omega
  obtain ⟨p1, p2⟩ := progAt_get hn
  obtain ⟨c1, c2⟩ := coreAt_get hc
  obtain ⟨k1, k2⟩ := hps.2 _ p2
  have hm := ha.ml
  have hcl := ha.cl
  have e1 : cloneO 4 (Atom.Mem a) = some (Atom.Mem a) := cloneO_small (by omega) (by omega)
  have e2 : cloneO 48 (Atom.Cores a) = some (Atom.Cores a) := cloneO_small (by omega) (by omega)
  have e3 : cloneO 16 (Atom.Outs a) = some (Atom.Outs a) := cloneO_small (by omega) (by omega)
  have a2 : ∀ x, appO 16 (Atom.Outs a) ([x] : List Told) = some (Atom.Outs a ++ [x]) := fun x => appO_small (by simp; omega) (by omega)
  have hs : ∀ v, setO (Atom.Cores a) (n : Int) v = some ((Atom.Cores a).set n v) := fun v => setO_in hc
  have h0 : ¬ (n : Int) < 0 := by omega
  have h1 : ¬ ((Atom.Cores a).length : Int) ≤ (n : Int) := by omega
  rw [atom_Step_form]
  simp only [e1, e2, e3, Option.bind_some, atom_Right_eq hps, hr, Bool.not_true, Bool.false_eq_true, if_false, h0, h1, decide_false, p1, c1, idxO_in hc, core_Wants_all (show (progAt ps n).length ≤ 1000 by omega) (ha.regs _ c2) (show ((Atom.Mem a).length : Int) ≤ 9223372036854775807 by omega), actI_eq, core_Done_all k2 (show (progAt ps n).length ≤ 1000 by omega) (ha.regs _ c2), hs]
  unfold stepA wantA
  by_cases hk : Want.Kind (wantF (progAt ps n) (coreAt (Atom.Cores a) n) ((Atom.Mem a).length : Int)) = 4
  · simp only [hk, decide_true, if_true, a2, Option.bind_some]
  · simp only [hk, decide_false, Bool.false_eq_true, if_false, Option.bind_some]
theorem step_right {ps : List (List Ins)} (hps : progsOk ps) {a : Atom} (ha : AOk a) (hr : rightA ps a = true) {n : Nat} (hn : n < ps.length) : rightA ps (stepA ps a n) = true := by
  have hl : (Atom.Cores a).length = ps.length := by
    unfold rightA at hr
    simp only [Bool.and_eq_true, decide_eq_true_eq] at hr
    exact hr.2.2.1
  have := run_right hps [(n : Int)] ha hr
  have e : runS ps a [(n : Int)] = stepA ps a n := by
    show pickS ps a (n : Int) = _
    unfold pickS
    rw [if_pos (by omega), Int.toNat_natCast]
  rw [e] at this
  exact this

/-! ### Two steps in either order -/
theorem actS_rest {mem : List Int} {w : Want} (h : ¬ (1 ≤ Want.Kind w ∧ Want.Kind w ≤ 3)) : actS mem w = (mem, 0) := by
  unfold actS
  have : actOk mem w = false := by
    rw [Bool.eq_false_iff]
    intro q
    unfold actOk at q
    simp only [Bool.and_eq_true, decide_eq_true_eq] at q
    exact h ⟨q.1, q.2.1⟩
  rw [this, if_neg (by simp)]
theorem actS_read {mem : List Int} {w : Want} (h : Want.Kind w = 1) : (actS mem w).1 = mem := by
  unfold actS
  split
  · dsimp only
    rw [if_neg (by omega)]
  · rfl
theorem actS_on {mem : List Int} {w : Want} (h : actOk mem w = true) : actS mem w = (if Want.Kind w = 2 ∨ (Want.Kind w = 3 ∧ wasAt mem w = Want.Old w) then mem.set (Want.At w).toNat (Want.Val w) else mem, wasAt mem w) := by
  unfold actS
  rw [if_pos h]
theorem actS_apart {mem : List Int} {v w : Want} (h : Want.At v ≠ Want.At w) : (actS (actS mem v).1 w).2 = (actS mem w).2 ∧ (actS (actS mem v).1 w).1 = (actS (actS mem w).1 v).1 := by
  have hl := actS_len mem v
  have hl2 := actS_len mem w
  have ok1 : actOk (actS mem v).1 w = actOk mem w := by unfold actOk; rw [hl]
  have ok2 : actOk (actS mem w).1 v = actOk mem v := by unfold actOk; rw [hl2]
  have key : ∀ (v w : Want), Want.At v ≠ Want.At w → actOk mem w = true → wasAt (actS mem v).1 w = wasAt mem w := fun v w h hw => by
    unfold actOk at hw
    simp only [Bool.and_eq_true, decide_eq_true_eq] at hw
    unfold actS
    split
    · rename_i hv
      unfold actOk at hv
      simp only [Bool.and_eq_true, decide_eq_true_eq] at hv
      dsimp only
      split
      · unfold wasAt
        rw [List.getElem?_set_ne (by omega)]
      · rfl
    · rfl
  by_cases hw : actOk mem w = true
  · have e1 := key v w h hw
    by_cases hv : actOk mem v = true
    · have e2 := key w v (fun q => h q.symm) hv
      constructor
      · rw [actS_on (mem := (actS mem v).1) (w := w) (by rw [ok1]; exact hw), e1, actS_on hw]
      · rw [actS_on (mem := (actS mem v).1) (w := w) (by rw [ok1]; exact hw), actS_on (mem := (actS mem w).1) (w := v) (by rw [ok2]; exact hv), e1, e2, actS_on hw, actS_on hv]
        dsimp only
        unfold actOk at hw hv
        simp only [Bool.and_eq_true, decide_eq_true_eq] at hw hv
        have hne : (Want.At v).toNat ≠ (Want.At w).toNat := by omega
        split <;> split
        · exact List.set_comm _ _ hne
        · rfl
        · rfl
        · rfl
    · have hvs : ∀ m : List Int, actOk m v = false → actS m v = (m, 0) := fun m hm => by unfold actS; rw [hm, if_neg (by simp)]
      have hv' : actOk mem v = false := Bool.eq_false_iff.2 hv
      rw [hvs mem hv', hvs (actS mem w).1 (by rw [ok2]; exact hv')]
      exact ⟨rfl, rfl⟩
  · have hws : ∀ m : List Int, actOk m w = false → actS m w = (m, 0) := fun m hm => by unfold actS; rw [hm, if_neg (by simp)]
    have hw' : actOk mem w = false := Bool.eq_false_iff.2 hw
    rw [hws mem hw', hws (actS mem v).1 (by rw [ok1]; exact hw')]
    exact ⟨rfl, rfl⟩

def apartW (v w : Want) : Prop := (¬ (1 ≤ Want.Kind v ∧ Want.Kind v ≤ 3)) ∨ (¬ (1 ≤ Want.Kind w ∧ Want.Kind w ≤ 3)) ∨ Want.At v ≠ Want.At w ∨ (Want.Kind v = 1 ∧ Want.Kind w = 1)
theorem apart_sym {v w : Want} (h : apartW v w) : apartW w v := by
  rcases h with h | h | h | h
  · exact .inr (.inl h)
  · exact .inl h
  · exact .inr (.inr (.inl fun q => h q.symm))
  · exact .inr (.inr (.inr ⟨h.2, h.1⟩))
theorem act_turn {mem : List Int} {v w : Want} (h : apartW v w) : (actS (actS mem v).1 w).2 = (actS mem w).2 ∧ (actS (actS mem v).1 w).1 = (actS (actS mem w).1 v).1 := by
  rcases h with h | h | h | h
  · rw [actS_rest h]
    exact ⟨rfl, by rw [actS_rest h]⟩
  · rw [actS_rest h, actS_rest h]
    exact ⟨rfl, rfl⟩
  · exact actS_apart h
  · rw [actS_read h.1, actS_read h.2]
    exact ⟨rfl, (actS_read h.1).symm⟩

theorem steps_turn {ps : List (List Ins)} {a : Atom} {n k : Nat} (hnk : n ≠ k) (hn : n < (Atom.Cores a).length) (hk : k < (Atom.Cores a).length) (h1 : apartW (wantA ps a n) (wantA ps a k)) (h2 : ¬ (Want.Kind (wantA ps a n) = 4 ∧ Want.Kind (wantA ps a k) = 4)) :
    stepA ps (stepA ps a n) k = stepA ps (stepA ps a k) n := by
  have w1 : wantA ps (stepA ps a n) k = wantA ps a k := by
    unfold wantA
    have e1 : coreAt (Atom.Cores (stepA ps a n)) k = coreAt (Atom.Cores a) k := coreAt_set_ne hnk _
    rw [e1, (step_lens ps a n).1]
  have w2 : wantA ps (stepA ps a k) n = wantA ps a n := by
    unfold wantA
    have e1 : coreAt (Atom.Cores (stepA ps a k)) n = coreAt (Atom.Cores a) n := coreAt_set_ne (fun q => hnk q.symm) _
    rw [e1, (step_lens ps a k).1]
  have c1 : coreAt (Atom.Cores (stepA ps a n)) k = coreAt (Atom.Cores a) k := coreAt_set_ne hnk _
  have c2 : coreAt (Atom.Cores (stepA ps a k)) n = coreAt (Atom.Cores a) n := coreAt_set_ne (fun q => hnk q.symm) _
  have m1 : Atom.Mem (stepA ps a n) = (actS (Atom.Mem a) (wantA ps a n)).1 := rfl
  have m2 : Atom.Mem (stepA ps a k) = (actS (Atom.Mem a) (wantA ps a k)).1 := rfl
  obtain ⟨t1, t2⟩ := act_turn (mem := Atom.Mem a) h1
  obtain ⟨t3, t4⟩ := act_turn (mem := Atom.Mem a) (apart_sym h1)
  have e : ∀ (b : Atom) (j : Nat), stepA ps b j = Atom.mk (actS (Atom.Mem b) (wantA ps b j)).1 ((Atom.Cores b).set j (doneF (progAt ps j) (coreAt (Atom.Cores b) j) (actS (Atom.Mem b) (wantA ps b j)).2))
    (if Want.Kind (wantA ps b j) = 4 then Atom.Outs b ++ [Told.mk (j : Int) (Want.Val (wantA ps b j))] else Atom.Outs b) := fun b j => rfl
  rw [e (stepA ps a n) k, e (stepA ps a k) n, w1, w2, c1, c2, m1, m2, t1, t2, t3]
  have o1 : Atom.Outs (stepA ps a n) = if Want.Kind (wantA ps a n) = 4 then Atom.Outs a ++ [Told.mk (n : Int) (Want.Val (wantA ps a n))] else Atom.Outs a := rfl
  have o2 : Atom.Outs (stepA ps a k) = if Want.Kind (wantA ps a k) = 4 then Atom.Outs a ++ [Told.mk (k : Int) (Want.Val (wantA ps a k))] else Atom.Outs a := rfl
  have s1 : Atom.Cores (stepA ps a n) = (Atom.Cores a).set n (doneF (progAt ps n) (coreAt (Atom.Cores a) n) (actS (Atom.Mem a) (wantA ps a n)).2) := rfl
  have s2 : Atom.Cores (stepA ps a k) = (Atom.Cores a).set k (doneF (progAt ps k) (coreAt (Atom.Cores a) k) (actS (Atom.Mem a) (wantA ps a k)).2) := rfl
  rw [o1, o2, s1, s2, List.set_comm _ _ hnk]
  by_cases k4 : Want.Kind (wantA ps a k) = 4
  · have n4 : ¬ Want.Kind (wantA ps a n) = 4 := fun q => h2 ⟨q, k4⟩
    rw [if_pos k4, if_neg n4, if_neg n4, if_pos k4]
  · rw [if_neg k4, if_neg k4]

theorem rem_nat (v : Int) (hv : 0 ≤ v ∧ v < 256) (n : Nat) (hn : 1 ≤ n) : ∃ k : Nat, remO (w64 v) (n : Int) = some (k : Int) ∧ k < n := by
  have hw : w64 v = v := w64_id (by omega) (by omega)
  obtain ⟨r1, a1, b1⟩ := rem_pos hv.1 (show (0 : Int) < (n : Int) by omega)
  refine ⟨(v % (n : Int)).toNat, ?_, by omega⟩
  rw [hw, r1]
  congr 1
  omega

end Go.Proofs.Ytihchahfnhoapaa
