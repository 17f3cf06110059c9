/- Layer 4: a step by the program; the law AtomTurns on typed data. -/
import Derived.Test.YtihchahfnhoapaaPR04b
--
set_option linter.unusedSimpArgs false
set_option linter.unusedVariables false
namespace Go.Proofs.Ytihchahfnhoapaa
open Go.SX

theorem atom_Step_form (p0 : List (List Ins)) (p1 : Atom) (p2 : Int) : atom_Step p0 p1 p2 =
  ((
    (cloneO 4 (Atom.Mem p1)).bind fun v4 =>
    (cloneO 48 (Atom.Cores p1)).bind fun v6 =>
    (cloneO 16 (Atom.Outs p1)).bind fun v8 =>
    some ((v4, v6, v8)) : Option ((List Int) × (List Core) × (List Told))).bind fun v3 =>
  (
    (atom_Right p0 p1).bind fun v6 =>
    if !v6 then
      some (true)
    else
      if decide (p2 < (0 : Int)) then
        some (true)
      else
        some ((decide ((List.length (Atom.Cores p1) : Int) ≤ p2))) : Option Bool).bind fun v6 =>
  if v6 then
    some ((Atom.mk v3.1 v3.2.1 v3.2.2, (1 : Int)))
  else
    (
      (getO p0 p2).bind fun v7 =>
      (idxO (List.length v3.2.1 : Int) p2).bind fun v8 =>
      (getO v3.2.1 v8).bind fun v9 =>
      (core_Wants v7 v9 (List.length v3.1 : Int)).bind fun v11 =>
      (
        if decide ((Want.Kind v11) = (4 : Int)) then
          (appO 16 v3.2.2 ([Told.mk p2 (Want.Val v11)] : List Told)).bind fun v17 =>
          some (v17)
        else
          some (v3.2.2) : Option (List Told)).bind fun v14 =>
      (getO p0 p2).bind fun v15 =>
      (idxO (List.length v3.2.1 : Int) p2).bind fun v16 =>
      (getO v3.2.1 v16).bind fun v17 =>
      (actI v3.1 v11).bind fun v18 =>
      (core_Done v15 v17 v18.1).bind fun v20 =>
      (idxO (List.length v3.2.1 : Int) p2).bind fun v21 =>
      (setO v3.2.1 v21 v20).bind fun v22 =>
      some ((v18.2, v22, v14)) : Option ((List Int) × (List Core) × (List Told))).bind fun v7 =>
    some ((Atom.mk v7.1 v7.2.1 v7.2.2, (0 : Int)))) := rfl

theorem atom_Step_eq {ps : List (List Ins)} (hps : progsOk ps) {a : Atom} (ha : AOk a) (ho : (Atom.Outs a).length ≤ 100000) (hr : rightA ps a = true) {n : Nat} (hn : n < ps.length) : atom_Step ps a (n : Int) = some (stepA ps a n, 0) := by
  have hl : (Atom.Cores a).length = ps.length := by
    unfold rightA at hr
    simp only [Bool.and_eq_true, decide_eq_true_eq] at hr
    exact hr.2.2.1
  have hc : n < (Atom.Cores a).length := by omega
  obtain ⟨p1, p2⟩ := progAt_get hn
  obtain ⟨c1, c2⟩ := coreAt_get hc
  obtain ⟨k1, k2⟩ := hps.2 _ p2
  have hm := ha.ml
  have hcl := ha.cl
  have e1 : cloneO 4 (Atom.Mem a) = some (Atom.Mem a) := cloneO_small (by omega) (by omega)
  have e2 : cloneO 48 (Atom.Cores a) = some (Atom.Cores a) := cloneO_small (by omega) (by omega)
  have e3 : cloneO 16 (Atom.Outs a) = some (Atom.Outs a) := cloneO_small (by omega) (by omega)
  have a2 : ∀ x, appO 16 (Atom.Outs a) ([x] : List Told) = some (Atom.Outs a ++ [x]) := fun x => appO_small (by simp; omega) (by omega)
  have hs : ∀ v, setO (Atom.Cores a) (n : Int) v = some ((Atom.Cores a).set n v) := fun v => setO_in hc
  have h0 : ¬ (n : Int) < 0 := by omega
  have h1 : ¬ ((Atom.Cores a).length : Int) ≤ (n : Int) := by omega
  rw [atom_Step_form]
  simp only [e1, e2, e3, Option.bind_some, atom_Right_eq hps, hr, Bool.not_true, Bool.false_eq_true, if_false, h0, h1, decide_false, p1, c1, idxO_in hc, core_Wants_all (show (progAt ps n).length ≤ 1000 by omega) (ha.regs _ c2) (show ((Atom.Mem a).length : Int) ≤ 9223372036854775807 by omega), actI_eq, core_Done_all k2 (show (progAt ps n).length ≤ 1000 by omega) (ha.regs _ c2), hs]
  unfold stepA wantA
  by_cases hk : Want.Kind (wantF (progAt ps n) (coreAt (Atom.Cores a) n) ((Atom.Mem a).length : Int)) = 4
  · simp only [hk, decide_true, if_true, a2, Option.bind_some]
  · simp only [hk, decide_false, Bool.false_eq_true, if_false, Option.bind_some]
theorem step_right {ps : List (List Ins)} (hps : progsOk ps) {a : Atom} (ha : AOk a) (hr : rightA ps a = true) {n : Nat} (hn : n < ps.length) : rightA ps (stepA ps a n) = true := by
  have hl : (Atom.Cores a).length = ps.length := by
    unfold rightA at hr
    simp only [Bool.and_eq_true, decide_eq_true_eq] at hr
    exact hr.2.2.1
  have := run_right hps [(n : Int)] ha hr
  have e : runS ps a [(n : Int)] = stepA ps a n := by
    show pickS ps a (n : Int) = _
    unfold pickS
    rw [if_pos (by omega), Int.toNat_natCast]
  rw [e] at this
  exact this

/-! ### Two steps in either order -/
theorem actS_rest {mem : List Int} {w : Want} (h : ¬ (1 ≤ Want.Kind w ∧ Want.Kind w ≤ 3)) : actS mem w = (mem, 0) := by
  unfold actS
  have : actOk mem w = false := by
    rw [Bool.eq_false_iff]
    intro q
    unfold actOk at q
    simp only [Bool.and_eq_true, decide_eq_true_eq] at q
    exact h ⟨q.1, q.2.1⟩
  rw [this, if_neg (by simp)]
theorem actS_read {mem : List Int} {w : Want} (h : Want.Kind w = 1) : (actS mem w).1 = mem := by
  unfold actS
  split
  · dsimp only
    rw [if_neg (by omega)]
  · rfl
theorem actS_on {mem : List Int} {w : Want} (h : actOk mem w = true) : actS mem w = (if Want.Kind w = 2 ∨ (Want.Kind w = 3 ∧ wasAt mem w = Want.Old w) then mem.set (Want.At w).toNat (Want.Val w) else mem, wasAt mem w) := by
  unfold actS
  rw [if_pos h]
theorem rem_nat (v : Int) (hv : 0 ≤ v ∧ v < 256) (n : Nat) (hn : 1 ≤ n) : ∃ k : Nat, remO (w64 v) (n : Int) = some (k : Int) ∧ k < n := by
  have hw : w64 v = v := w64_id (by omega) (by omega)
  obtain ⟨r1, a1, b1⟩ := rem_pos hv.1 (show (0 : Int) < (n : Int) by omega)
  refine ⟨(v % (n : Int)).toNat, ?_, by omega⟩
  rw [hw, r1]
  congr 1
  omega

theorem small_run' {ps : List (List Ins)} (hps : progsOk ps) {words : Int} (h : newOk ps words = true) (picks : List Int) (hp : picks.length ≤ 1000) : AOk (runS ps (newA ps words) picks) ∧ (Atom.Cores (runS ps (newA ps words) picks)).length = ps.length ∧ (Atom.Outs (runS ps (newA ps words) picks)).length ≤ 1000 ∧ rightA ps (runS ps (newA ps words) picks) = true ∧ 1 ≤ ps.length := by
  obtain ⟨h1, h2, _, _, _, h6⟩ := newA_ok hps h
  obtain ⟨g1, g2, g3, g4⟩ := run_ok hps picks h1 h2
  have e : (Atom.Outs (newA ps words)).length = 0 := rfl
  exact ⟨g1, g2, by omega, run_right hps picks h1 (newA_right hps h), h6⟩
theorem small_of {a : Atom} (h : AOk a) (ho : (Atom.Outs a).length ≤ 100000) : smallA a := by
  have := h.ml
  have := h.cl
  exact ⟨by omega, by omega, ho⟩

end Go.Proofs.Ytihchahfnhoapaa
