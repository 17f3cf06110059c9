/- Layer 4: any machine: the law AtomRight on typed data, of lists that aren't longer than 1048576. -/
import Derived.Test.YtihchahfnhoapaaPS04b
import Derived.Test.YtihchahfnhoapaaPU
import Derived.Test.YtihchahfnhoapaaD142
set_option linter.unusedSimpArgs false
set_option linter.unusedVariables false
namespace Go.Proofs.Ytihchahfnhoapaa
open Go.SX

theorem atom_Step_form (p0 : List (List Ins)) (p1 : Atom) (p2 : Int) : atom_Step p0 p1 p2 =
  ((
    (cloneO 4 (Atom.Mem p1)).bind fun v4 =>
    (cloneO 48 (Atom.Cores p1)).bind fun v6 =>
    (cloneO 16 (Atom.Outs p1)).bind fun v8 =>
    some ((v4, v6, v8)) : Option ((List Int) × (List Core) × (List Told))).bind fun v3 =>
  (
    (atom_Right p0 p1).bind fun v6 =>
    if !v6 then
      some (true)
    else
      if decide (p2 < (0 : Int)) then
        some (true)
      else
        some ((decide ((List.length (Atom.Cores p1) : Int) ≤ p2))) : Option Bool).bind fun v6 =>
  if v6 then
    some ((Atom.mk v3.1 v3.2.1 v3.2.2, (1 : Int)))
  else
    (
      (getO p0 p2).bind fun v7 =>
      (idxO (List.length v3.2.1 : Int) p2).bind fun v8 =>
      (getO v3.2.1 v8).bind fun v9 =>
      (core_Wants v7 v9 (List.length v3.1 : Int)).bind fun v11 =>
      (
        if decide ((Want.Kind v11) = (4 : Int)) then
          (appO 16 v3.2.2 ([Told.mk p2 (Want.Val v11)] : List Told)).bind fun v17 =>
          some (v17)
        else
          some (v3.2.2) : Option (List Told)).bind fun v14 =>
      (getO p0 p2).bind fun v15 =>
      (idxO (List.length v3.2.1 : Int) p2).bind fun v16 =>
      (getO v3.2.1 v16).bind fun v17 =>
      (actI v3.1 v11).bind fun v18 =>
      (core_Done v15 v17 v18.1).bind fun v20 =>
      (idxO (List.length v3.2.1 : Int) p2).bind fun v21 =>
      (setO v3.2.1 v21 v20).bind fun v22 =>
      some ((v18.2, v22, v14)) : Option ((List Int) × (List Core) × (List Told))).bind fun v7 =>
    some ((Atom.mk v7.1 v7.2.1 v7.2.2, (0 : Int)))) := rfl

theorem atom_Step_eq {ps : List (List Ins)} (hps : progsOk ps) {a : Atom} (ha : AOk a) (ho : (Atom.Outs a).length ≤ 2000000) (hr : rightA ps a = true) {n : Nat} (hn : n < ps.length) : atom_Step ps a (n : Int) = some (stepA ps a n, 0) := by
  have hl : (Atom.Cores a).length = ps.length := by
    unfold rightA at hr
    simp only [Bool.and_eq_true, decide_eq_true_eq] at hr
    exact hr.2.2.1
  have hc : n < (Atom.Cores a).length := by omega
  obtain ⟨p1, p2⟩ := progAt_get hn
  obtain ⟨c1, c2⟩ := coreAt_get hc
  obtain ⟨k1, k2⟩ := hps.2 _ p2
  have hm := ha.ml
  have hcl := ha.cl
  have e1 : cloneO 4 (Atom.Mem a) = some (Atom.Mem a) := cloneO_big (by omega) (by omega)
  have e2 : cloneO 48 (Atom.Cores a) = some (Atom.Cores a) := cloneO_big (by omega) (by omega)
  have e3 : cloneO 16 (Atom.Outs a) = some (Atom.Outs a) := cloneO_big (by omega) (by omega)
  have a2 : ∀ x, appO 16 (Atom.Outs a) ([x] : List Told) = some (Atom.Outs a ++ [x]) := fun x => appO_big (by simp; omega) (by omega)
  have hs : ∀ v, setO (Atom.Cores a) (n : Int) v = some ((Atom.Cores a).set n v) := fun v => setO_in hc
  have h0 : ¬ (n : Int) < 0 := by omega
  have h1 : ¬ ((Atom.Cores a).length : Int) ≤ (n : Int) := by omega
  rw [atom_Step_form]
  simp only [e1, e2, e3, Option.bind_some, atom_Right_eq hps, hr, Bool.not_true, Bool.false_eq_true, if_false, h0, h1, decide_false, p1, c1, idxO_in hc, core_Wants_all (show (progAt ps n).length ≤ 1000 by omega) (ha.regs _ c2) (show ((Atom.Mem a).length : Int) ≤ 9223372036854775807 by omega), actI_eq, core_Done_all k2 (show (progAt ps n).length ≤ 1000 by omega) (ha.regs _ c2), hs]
  unfold stepA wantA
  by_cases hk : Want.Kind (wantF (progAt ps n) (coreAt (Atom.Cores a) n) ((Atom.Mem a).length : Int)) = 4
  · simp only [hk, decide_true, if_true, a2, Option.bind_some]
  · simp only [hk, decide_false, Bool.false_eq_true, if_false, Option.bind_some]
theorem atom_Step_no {ps : List (List Ins)} (hps : progsOk ps) {a : Atom} (hm : (Atom.Mem a).length ≤ 100) (hc : (Atom.Cores a).length ≤ 6) (ho : (Atom.Outs a).length ≤ 2000000) {n : Int}
    (h : ¬ (rightA ps a = true ∧ 0 ≤ n ∧ n < ((Atom.Cores a).length : Int))) : atom_Step ps a n = some (a, 1) := by
  have e1 : cloneO 4 (Atom.Mem a) = some (Atom.Mem a) := cloneO_big (by omega) (by omega)
  have e2 : cloneO 48 (Atom.Cores a) = some (Atom.Cores a) := cloneO_big (by omega) (by omega)
  have e3 : cloneO 16 (Atom.Outs a) = some (Atom.Outs a) := cloneO_big (by omega) (by omega)
  rw [atom_Step_form]
  simp only [e1, e2, e3, Option.bind_some, atom_Right_eq hps]
  cases hr : rightA ps a
  · rfl
  · by_cases h0 : n < 0
    · simp only [Bool.not_true, Bool.false_eq_true, if_false, h0, decide_true, if_true, Option.bind_some]
      rfl
    · have h1 : ((Atom.Cores a).length : Int) ≤ n := by
        rcases Int.lt_or_le n ((Atom.Cores a).length : Int) with q | q
        · exact absurd ⟨hr, by omega, q⟩ h
        · exact q
      simp only [Bool.not_true, Bool.false_eq_true, if_false, h0, decide_false, h1, decide_true, if_true, Option.bind_some]
      rfl

theorem r03_Right_eq' {p : List Ins} (hK : insOk p) (hp : p.length ≤ 80) (c : Core) : r03_Right p c = some (rightC p c) := by
  unfold r03_Right rightC
  rw [r02_Right_eq p (by omega) hK]
  cases rightP p
  · rfl
  · by_cases h : (0 : Int) ≤ Core.PC c
    · simp [h]
    · simp [h]
theorem r04_Right_eq {ps : List (List Ins)} (hps : progsOk ps) (a : Atom) : r04_Right ps a = some (rightA ps a) := by
  unfold r04_Right rightA
  rw [r02_All_eq hps]
  cases hall : allP ps
  · rfl
  have h6 := hps.1
  by_cases h1 : (Atom.Mem a).length < 1
  · have e1 : ((Atom.Mem a).length : Int) = 0 := by omega
    have e2 : ¬ (1 ≤ (Atom.Mem a).length ∧ (Atom.Mem a).length ≤ 64) := by omega
    simp [e1, e2]
  have e1 : ¬ ((Atom.Mem a).length : Int) = 0 := by omega
  by_cases h2 : 64 < (Atom.Mem a).length
  · have e3 : (64 : Int) < ((Atom.Mem a).length : Int) := by omega
    have e2 : ¬ (1 ≤ (Atom.Mem a).length ∧ (Atom.Mem a).length ≤ 64) := by omega
    simp [e1, e2, e3]
  have e3 : ¬ (64 : Int) < ((Atom.Mem a).length : Int) := by omega
  have e2 : (1 ≤ (Atom.Mem a).length ∧ (Atom.Mem a).length ≤ 64) := by omega
  by_cases h3 : (Atom.Cores a).length = ps.length
  · have e4 : ((Atom.Cores a).length : Int) = (ps.length : Int) := by omega
    have lp := check_all (f := r04_Right_L1 ps a) (n := ps.length) (g := fun _ => some true) (fun i => (i : Int)) (fun n => rightC (progAt ps n) (coreAt (Atom.Cores a) n)) (fun i hi _ => by
      have hlt : (i : Int) < (List.length ps : Int) := by omega
      obtain ⟨p1, p2⟩ := progAt_get hi
      obtain ⟨c1, c2⟩ := coreAt_get (cs := Atom.Cores a) (n := i) (by omega)
      have hr := r03_Right_eq' (hps.2 _ p2).2 (hps.2 _ p2).1 (coreAt (Atom.Cores a) i)
      unfold r04_Right_L1
      simp only [hlt, decide_true, if_true, p1, c1, Option.bind_some, hr, w64_succ (show i < 4611686018427387904 by omega)]
      cases rightC (progAt ps i) (coreAt (Atom.Cores a) i) <;> rfl) (fun _ => by
      unfold r04_Right_L1
      have : ¬ (ps.length : Int) < (List.length ps : Int) := by omega
      simp only [this, decide_false, Bool.false_eq_true, if_false])
    rw [show (((0 : Nat) : Int)) = 0 from rfl] at lp
    simp only [Option.bind_some, Bool.not_true, Bool.false_eq_true, if_false, e1, e3, e4, decide_false, decide_true, h3, e2, and_self, Bool.true_and]
    rw [lp]
    cases (List.range ps.length).all fun n => rightC (progAt ps n) (coreAt (Atom.Cores a) n) <;> rfl
  · have e4 : ¬ ((Atom.Cores a).length : Int) = (ps.length : Int) := by omega
    simp [e1, e2, e3, e4, h3]

/-! ### Have all halted? -/
theorem atom_Over_eq (a : Atom) (hc : (Atom.Cores a).length ≤ 6) : atom_Over a = some ((Atom.Cores a).all Core.Halted) := by
  unfold atom_Over
  have lp := loop_first (f := atom_Over_L1 (Atom.Cores a) (List.length (Atom.Cores a) : Int)) (n := (Atom.Cores a).length) (fun i => (i : Int)) (fun i => optT Core.Halted (Atom.Cores a)[i]?) (e := (Sum.inl () : Unit ⊕ Int)) (r := fun i => .inr (i : Int)) (fun i hi _ => by
      have hlt : (i : Int) < (List.length (Atom.Cores a) : Int) := by omega
      rw [optT_in hi]
      unfold atom_Over_L1 atom_Over_1
      simp only [hlt, decide_true, if_true, getO_in hi, Option.bind_some, w64_succ (show i < 4611686018427387904 by omega)]
      cases Core.Halted (Atom.Cores a)[i] <;> rfl) (fun _ => by
      unfold atom_Over_L1
      simp only [show ¬ (List.length (Atom.Cores a) : Int) < (List.length (Atom.Cores a) : Int) by omega, decide_false, Bool.false_eq_true, if_false])
  rw [show (((0 : Nat) : Int)) = 0 from rfl] at lp
  simp only [lp]
  have f2 := firstI_all (ok := fun i => optT Core.Halted (Atom.Cores a)[i]?) (n := (Atom.Cores a).length)
  rw [← range_all, ← all_range] at f2
  have f1 := (firstI_facts (fun i => optT Core.Halted (Atom.Cores a)[i]?) (Atom.Cores a).length).1
  by_cases ha : (Atom.Cores a).all Core.Halted = true
  · have := f2.2 ha
    rw [if_neg (by omega), ha]
    rfl
  · have : firstI (fun i => optT Core.Halted (Atom.Cores a)[i]?) (Atom.Cores a).length < (Atom.Cores a).length := by
      rcases Nat.lt_or_ge (firstI (fun i => optT Core.Halted (Atom.Cores a)[i]?) (Atom.Cores a).length) (Atom.Cores a).length with q | q
      · exact q
      · exact absurd (f2.1 (by omega)) ha
    rw [if_pos this, Bool.eq_false_iff.2 ha]
    have h0 : (0 : Int) ≤ ((firstI (fun i => optT Core.Halted (Atom.Cores a)[i]?) (Atom.Cores a).length : Nat) : Int) := by omega
    simp only [orExit_inr, Option.bind_some, h0, decide_true, Bool.not_true]
theorem r04_Over_eq (l : List Core) (hc : l.length ≤ 6) : r04_Over l = some (l.all Core.Halted) := by
  unfold r04_Over
  have lp := check_all (f := r04_Over_L1 l) (n := l.length) (g := fun _ => some true) (fun i => (i : Int)) (fun i => optT Core.Halted l[i]?) (fun i hi _ => by
      have hlt : (i : Int) < (List.length l : Int) := by omega
      rw [optT_in hi]
      unfold r04_Over_L1
      simp only [hlt, decide_true, if_true, getO_in hi, Option.bind_some, w64_succ (show i < 4611686018427387904 by omega)]
      cases Core.Halted l[i] <;> rfl) (fun _ => by
      unfold r04_Over_L1
      simp only [show ¬ (List.length l : Int) < (List.length l : Int) by omega, decide_false, Bool.false_eq_true, if_false])
  rw [show (((0 : Nat) : Int)) = 0 from rfl] at lp
  rw [lp, ← all_range]
  cases l.all Core.Halted <;> rfl

theorem atom_Act_eq {mem : List Int} (hm : mem.length ≤ 1000) (w : Want) : atom_Act mem w = some (actS mem w) := by
  have e : atom_Act mem w = (cloneO 4 mem).bind fun v2 => (actI v2 w).bind fun v3 => some ((v3.2, v3.1)) := rfl
  rw [e, cloneO_big (by omega) (by omega)]
  simp only [Option.bind_some, actI_eq]

theorem atomRight_all (ps : List (List Ins)) (a : Atom) (n words : Int) (w : Want) (hK : ∀ p ∈ ps, insOk p) (hR : ∀ c ∈ Atom.Cores a, RegsOk c) (hM : wordsOk (Atom.Mem a)) (hO : (Atom.Outs a).length ≤ 1048576) : l04_AtomRight ps a n words w = some true := by
  unfold l04_AtomRight
  rw [r02_Short_eq]
  cases hs : shortP ps
  · rfl
  have hps := short_ok hs hK
  by_cases hm : (100 : Int) < ((Atom.Mem a).length : Int)
  · simp [l04_awake, hm]
  by_cases hc : (6 : Int) < ((Atom.Cores a).length : Int)
  · simp [l04_awake, hm, hc]
  have hm1 : (Atom.Mem a).length ≤ 100 := by omega
  have hc1 : (Atom.Cores a).length ≤ 6 := by omega
  have ha : AOk a := ⟨hR, hM, hm1, hc1⟩
  have hsm : smallA a := ⟨by omega, by omega, by omega⟩
  have w1 : r04_Words (actS (Atom.Mem a) w).1 (actS (Atom.Mem a) w).1 = some true := r04_Words_refl _ (by rw [actS_len]; omega)
  have ni := new_inline hps words
  simp only [l04_awake, Bool.not_true, Bool.false_eq_true, if_false, Option.bind_some, hm, hc, decide_false, atom_Act_eq (show (Atom.Mem a).length ≤ 1000 by omega), r04_Act_eq (show (Atom.Mem a).length ≤ 1000 by omega), w1, decide_true, atom_Over_eq a hc1, r04_Over_eq _ hc1]
  rw [ni]
  have hnew : ∀ x : Int × List Int × List Core, x = (if newOk ps words = true then ((0 : Int), Atom.Mem (newA ps words), Atom.Cores (newA ps words)) else ((1 : Int), [], [])) →
      r04_Same (Atom.mk x.2.1 x.2.2 ([] : List Told)) (if newOk ps words = true then (newA ps words, (0 : Int)) else (Atom.mk [] [] [], 1)).1 = some true ∧ x.1 = (if newOk ps words = true then (newA ps words, (0 : Int)) else (Atom.mk [] [] [], 1)).2 := by
    intro x hx
    subst hx
    cases hn : newOk ps words
    · exact ⟨r04_Same_refl _ ⟨by simp, by simp, by simp⟩, rfl⟩
    · obtain ⟨h1, h2, h3, h4, h5, h6⟩ := newA_ok hps hn
      have q1 := h1.ml
      have q2 := h1.cl
      exact ⟨r04_Same_refl (newA ps words) ⟨by omega, by omega, by simp [newA]⟩, rfl⟩
  obtain ⟨k1, k2⟩ := hnew _ rfl
  simp only [Option.bind_some, r04_New_eq hps words, k1, k2, Bool.not_true, Bool.false_eq_true, if_false, decide_true, atom_Right_eq hps, r04_Right_eq hps]
  by_cases h : rightA ps a = true ∧ 0 ≤ n ∧ n < ((Atom.Cores a).length : Int)
  · obtain ⟨h1, h2, h3⟩ := h
    have hl : (Atom.Cores a).length = ps.length := by
      have hr := h1
      unfold rightA at hr
      simp only [Bool.and_eq_true, decide_eq_true_eq] at hr
      exact hr.2.2.1
    obtain ⟨k, rfl⟩ : ∃ k : Nat, n = (k : Int) := ⟨n.toNat, by omega⟩
    have hk : k < ps.length := by omega
    have e1 : ¬ (k : Int) < 0 := by omega
    have e2 : ¬ (ps.length : Int) ≤ (k : Int) := by omega
    have st := step_ok hps ha hk (by omega)
    obtain ⟨l1, l2, l3⟩ := step_lens ps a k
    have hsm2 : smallA (stepA ps a k) := ⟨by omega, by omega, by omega⟩
    simp only [atom_Step_eq hps ha (show (Atom.Outs a).length ≤ 2000000 by omega) h1 hk, h1, Option.bind_some, Bool.not_true, Bool.false_eq_true, if_false, e1, e2, decide_false, decide_true, if_true, r04_Step_eq hps ha (show (Atom.Outs a).length ≤ 2000000 by omega) hk (by omega), r04_Same_refl _ hsm2]
  · have e := atom_Step_no hps hm1 hc1 (show (Atom.Outs a).length ≤ 2000000 by omega) (n := n) h
    have hb : (if (!rightA ps a) = true then some true else if decide (n < (0 : Int)) = true then some true else some (decide ((List.length ps : Int) ≤ n))) = some true := by
      cases hr : rightA ps a
      · rfl
      · have hl : (Atom.Cores a).length = ps.length := by
          have hr' := hr
          unfold rightA at hr'
          simp only [Bool.and_eq_true, decide_eq_true_eq] at hr'
          exact hr'.2.2.1
        by_cases h0 : n < 0
        · simp [h0]
        · have : (ps.length : Int) ≤ n := by
            rcases Int.lt_or_le n (ps.length : Int) with q | q
            · exact absurd ⟨hr, by omega, by omega⟩ h
            · exact q
          simp [h0, this]
    simp only [e, Option.bind_some, hb, if_true, decide_true, r04_Same_refl _ hsm]

theorem atomRight_ok (Ds : List D) (x : Ty.Tup F_l04_AtomRight.ps) (hr : RlL F_l04_AtomRight.ps Ds x) (hN : fitL 1048576 Ds) (h : OkL F_l04_AtomRight.ps x) : F_l04_AtomRight.sem x = some true := by
  refine atomRight_all x.1 x.2.1 x.2.2.1 x.2.2.2.1 x.2.2.2.2 (fun p hp y hy => ?_) (fun c hc => ?_) (fun y hy => ?_) ?_
  · have := ((h.1.2 p hp).2 y hy).2.2.2.2
    exact ⟨this.1, Int.lt_of_le_of_lt this.2 (by decide)⟩
  · have := (h.2.1.2.1.2 c hc).1
    exact ⟨this.1, fun r hr => ⟨(this.2 r hr).1, Int.lt_of_le_of_lt (this.2 r hr).2 (by decide)⟩⟩
  · have := h.2.1.1.2 y hy
    exact ⟨this.1, Int.lt_of_le_of_lt this.2 (by decide)⟩
  · obtain ⟨d0, l0, rfl, _, d1, l1, rfl, ⟨ds, rfl, m, l2, rfl, _, c, l3, rfl, _, o, rfl, os, ho, hos⟩, _⟩ := hr
    have hf := hN.2.1.2.2.1
    have hl : os.length ≤ 1048576 := by
      cases o <;> simp only [D.els, Option.some.injEq, reduceCtorEq] at ho
      · subst ho; exact hf.1
      · subst ho; exact Nat.zero_le _
    have := hos.length_eq
    show (Atom.Outs x.2.1).length ≤ 1048576
    exact Nat.le_trans (Nat.le_of_eq this.symm) hl

end Go.Proofs.Ytihchahfnhoapaa
