/- Layer 4: one step, a run, a new machine, a machine that may be. -/
import Derived.Test.YtihchahfnhoapaaPR04
set_option linter.unusedSimpArgs false
set_option linter.unusedVariables false
namespace Go.Proofs.Ytihchahfnhoapaa
open Go.SX

def core0 : Core := Core.mk [0, 0, 0, 0, 0, 0, 0, 0] 0 false
def progAt (ps : List (List Ins)) (n : Nat) : List Ins := ps[n]?.getD []
def coreAt (cs : List Core) (n : Nat) : Core := cs[n]?.getD core0
def wantA (ps : List (List Ins)) (a : Atom) (n : Nat) : Want := wantF (progAt ps n) (coreAt (Atom.Cores a) n) ((Atom.Mem a).length : Int)
def stepA (ps : List (List Ins)) (a : Atom) (n : Nat) : Atom :=
  Atom.mk (actS (Atom.Mem a) (wantA ps a n)).1 ((Atom.Cores a).set n (doneF (progAt ps n) (coreAt (Atom.Cores a) n) (actS (Atom.Mem a) (wantA ps a n)).2))
    (if Want.Kind (wantA ps a n) = 4 then Atom.Outs a ++ [Told.mk (n : Int) (Want.Val (wantA ps a n))] else Atom.Outs a)
structure AOk (a : Atom) : Prop where
  regs : ∀ c ∈ Atom.Cores a, RegsOk c
  mem : wordsOk (Atom.Mem a)
  ml : (Atom.Mem a).length ≤ 100
  cl : (Atom.Cores a).length ≤ 6
theorem progAt_get {ps : List (List Ins)} {n : Nat} (h : n < ps.length) : getO ps (n : Int) = some (progAt ps n) ∧ progAt ps n ∈ ps := by
  have e : progAt ps n = ps[n] := by unfold progAt; rw [List.getElem?_eq_getElem h]; rfl
  exact ⟨by rw [getO_in h, e], by rw [e]; exact List.getElem_mem h⟩
theorem coreAt_get {cs : List Core} {n : Nat} (h : n < cs.length) : getO cs (n : Int) = some (coreAt cs n) ∧ coreAt cs n ∈ cs := by
  have e : coreAt cs n = cs[n] := by unfold coreAt; rw [List.getElem?_eq_getElem h]; rfl
  exact ⟨by rw [getO_in h, e], by rw [e]; exact List.getElem_mem h⟩
theorem coreAt_set_same {cs : List Core} {n : Nat} (h : n < cs.length) (c : Core) : coreAt (cs.set n c) n = c := by
  unfold coreAt
  rw [List.getElem?_set_self h]
  rfl
theorem coreAt_set_ne {cs : List Core} {n k : Nat} (h : n ≠ k) (c : Core) : coreAt (cs.set n c) k = coreAt cs k := by
  unfold coreAt
  rw [List.getElem?_set_ne h]

theorem step_ok {ps : List (List Ins)} (hps : progsOk ps) {a : Atom} (ha : AOk a) {n : Nat} (hn : n < ps.length) (hc : n < (Atom.Cores a).length) : AOk (stepA ps a n) := by
  obtain ⟨p1, p2⟩ := progAt_get hn
  obtain ⟨c1, c2⟩ := coreAt_get hc
  have hv := wantF_val (p := progAt ps n) (ha.regs _ c2) ((Atom.Mem a).length : Int)
  obtain ⟨q1, q2⟩ := actS_ok ha.mem hv
  refine ⟨?_, q1, ?_, ?_⟩
  · intro c hcm
    rcases List.mem_or_eq_of_mem_set hcm with q | q
    · exact ha.regs c q
    · rw [q]; exact doneF_regs (hps.2 _ p2).2 (ha.regs _ c2) q2
  · show (actS (Atom.Mem a) (wantA ps a n)).1.length ≤ 100
    rw [actS_len]; exact ha.ml
  · show ((Atom.Cores a).set n _).length ≤ 6
    rw [List.length_set]; exact ha.cl
theorem step_lens (ps : List (List Ins)) (a : Atom) (n : Nat) : (Atom.Mem (stepA ps a n)).length = (Atom.Mem a).length ∧ (Atom.Cores (stepA ps a n)).length = (Atom.Cores a).length ∧ (Atom.Outs (stepA ps a n)).length ≤ (Atom.Outs a).length + 1 := by
  refine ⟨actS_len _ _, List.length_set, ?_⟩
  show (if Want.Kind (wantA ps a n) = 4 then Atom.Outs a ++ [Told.mk (n : Int) (Want.Val (wantA ps a n))] else Atom.Outs a).length ≤ _
  split
  · simp
  · omega

/-! ### A run -/
def pickS (ps : List (List Ins)) (a : Atom) (v : Int) : Atom := if 0 ≤ v ∧ v < ((Atom.Cores a).length : Int) then stepA ps a v.toNat else a
def runS (ps : List (List Ins)) (a : Atom) (picks : List Int) : Atom := picks.foldl (pickS ps) a
theorem atom_Run_L1_form (x0 : List (List Ins)) (x2 : List Int) (x7 : Int) (s : (Int × (List Int) × (List Core) × (List Told))) : atom_Run_L1 x0 x2 x7 s =
  (if decide (s.1 < x7) then
    (getO x2 s.1).bind fun v13 =>
    (
      if (decide ((0 : Int) ≤ v13)) && (decide (v13 < (List.length s.2.2.1 : Int))) then
        (
          (getO x0 v13).bind fun v15 =>
          (idxO (List.length s.2.2.1 : Int) v13).bind fun v16 =>
          (getO s.2.2.1 v16).bind fun v17 =>
          (core_Wants v15 v17 (List.length s.2.1 : Int)).bind fun v19 =>
          (
            if decide ((Want.Kind v19) = (4 : Int)) then
              (appO 16 s.2.2.2 ([Told.mk v13 (Want.Val v19)] : List Told)).bind fun v25 =>
              some (v25)
            else
              some (s.2.2.2) : Option (List Told)).bind fun v22 =>
          (getO x0 v13).bind fun v23 =>
          (idxO (List.length s.2.2.1 : Int) v13).bind fun v24 =>
          (getO s.2.2.1 v24).bind fun v25 =>
          (actI s.2.1 v19).bind fun v26 =>
          (core_Done v23 v25 v26.1).bind fun v28 =>
          (idxO (List.length s.2.2.1 : Int) v13).bind fun v29 =>
          (setO s.2.2.1 v29 v28).bind fun v30 =>
          some ((v26.2, v30, v22)) : Option ((List Int) × (List Core) × (List Told))).bind fun v15 =>
        some ((v15.1, v15.2.1, v15.2.2))
      else
        some ((s.2.1, s.2.2.1, s.2.2.2)) : Option ((List Int) × (List Core) × (List Told))).bind fun v15 =>
    some (Sum.inl (w64 (s.1 + (1 : Int)), v15.1, v15.2.1, v15.2.2))
  else
    some (Sum.inr ((s.2.1, s.2.2.1, s.2.2.2)))) := rfl

theorem pick_ok {ps : List (List Ins)} (hps : progsOk ps) {a : Atom} (ha : AOk a) (hl : (Atom.Cores a).length = ps.length) (v : Int) : AOk (pickS ps a v) ∧ (Atom.Cores (pickS ps a v)).length = ps.length ∧ (Atom.Mem (pickS ps a v)).length = (Atom.Mem a).length ∧ (Atom.Outs (pickS ps a v)).length ≤ (Atom.Outs a).length + 1 := by
  unfold pickS
  split
  · rename_i h
    obtain ⟨l1, l2, l3⟩ := step_lens ps a v.toNat
    exact ⟨step_ok hps ha (by omega) (by omega), by omega, l1, l3⟩
  · exact ⟨ha, hl, rfl, by omega⟩
theorem run_ok {ps : List (List Ins)} (hps : progsOk ps) : ∀ (picks : List Int) {a : Atom}, AOk a → (Atom.Cores a).length = ps.length → AOk (runS ps a picks) ∧ (Atom.Cores (runS ps a picks)).length = ps.length ∧ (Atom.Mem (runS ps a picks)).length = (Atom.Mem a).length ∧ (Atom.Outs (runS ps a picks)).length ≤ (Atom.Outs a).length + picks.length
  | [], a, ha, hl => ⟨ha, hl, rfl, Nat.le_refl _⟩
  | v :: picks, a, ha, hl => by
    obtain ⟨h1, h2, h3, h4⟩ := pick_ok hps ha hl v
    obtain ⟨g1, g2, g3, g4⟩ := run_ok hps picks h1 h2
    refine ⟨g1, g2, g3.trans h3, ?_⟩
    have e : (v :: picks).length = picks.length + 1 := rfl
    show (Atom.Outs (runS ps (pickS ps a v) picks)).length ≤ _
    omega
theorem run_take {ps : List (List Ins)} {a : Atom} {picks : List Int} {i : Nat} (h : i < picks.length) : runS ps a (picks.take (i + 1)) = pickS ps (runS ps a (picks.take i)) picks[i] := by
  unfold runS
  rw [take_succ_get h, List.foldl_append]
  rfl

theorem atom_Run_loop {ps : List (List Ins)} (hps : progsOk ps) {a : Atom} (ha : AOk a) (hl : (Atom.Cores a).length = ps.length) (ho : Atom.Outs a = []) {picks : List Int} (hp : picks.length ≤ 1000) :
    loopD (atom_Run_L1 ps picks (picks.length : Int)) ((0 : Int), Atom.Mem a, Atom.Cores a, Atom.Outs a) = some (Atom.Mem (runS ps a picks), Atom.Cores (runS ps a picks), Atom.Outs (runS ps a picks)) := by
  have lp := loop_good (f := atom_Run_L1 ps picks (picks.length : Int)) (n := picks.length) (e := (Atom.Mem (runS ps a picks), Atom.Cores (runS ps a picks), Atom.Outs (runS ps a picks))) (fun i => ((i : Int), Atom.Mem (runS ps a (picks.take i)), Atom.Cores (runS ps a (picks.take i)), Atom.Outs (runS ps a (picks.take i)))) (fun i hi => by
    obtain ⟨b, hb⟩ : ∃ b, b = runS ps a (picks.take i) := ⟨_, rfl⟩
    obtain ⟨g1, g2, g3, g4⟩ := run_ok hps (picks.take i) ha hl
    rw [← hb] at g1 g2 g3 g4
    have ho4 : (Atom.Outs b).length ≤ 1000 := by rw [ho] at g4; simp at g4; omega
    have hlt : (i : Int) < (picks.length : Int) := by omega
    rw [run_take hi, ← hb, atom_Run_L1_form]
    simp only [hlt, decide_true, if_true, getO_in hi, Option.bind_some, w64_succ (show i < 4611686018427387904 by omega)]
    unfold pickS
    by_cases hv : 0 ≤ picks[i] ∧ picks[i] < ((Atom.Cores b).length : Int)
    · have hc : ((decide ((0 : Int) ≤ picks[i])) && (decide (picks[i] < (List.length (Atom.Cores b) : Int)))) = true := by
        rw [Bool.and_eq_true, decide_eq_true_eq, decide_eq_true_eq]; exact hv
      rw [if_pos hv, hc, if_pos rfl]
      obtain ⟨v, hvn⟩ : ∃ v : Nat, picks[i] = (v : Int) := ⟨picks[i].toNat, by omega⟩
      rw [hvn] at hv ⊢
      have hvc : v < (Atom.Cores b).length := by omega
      have hvp : v < ps.length := by omega
      obtain ⟨p1, p2⟩ := progAt_get hvp
      obtain ⟨c1, c2⟩ := coreAt_get hvc
      obtain ⟨k1, k2⟩ := hps.2 _ p2
      have hm := g1.ml
      have a2 : ∀ x, appO 16 (Atom.Outs b) ([x] : List Told) = some (Atom.Outs b ++ [x]) := fun x => appO_small (by simp; omega) (by omega)
      have hs : ∀ v', setO (Atom.Cores b) (v : Int) v' = some ((Atom.Cores b).set v v') := fun v' => setO_in hvc
      simp only [p1, c1, idxO_in hvc, Option.bind_some, core_Wants_all (show (progAt ps v).length ≤ 1000 by omega) (g1.regs _ c2) (show ((Atom.Mem b).length : Int) ≤ 9223372036854775807 by omega), actI_eq, core_Done_all k2 (show (progAt ps v).length ≤ 1000 by omega) (g1.regs _ c2), hs, Int.toNat_natCast]
      unfold stepA wantA
      by_cases hk : Want.Kind (wantF (progAt ps v) (coreAt (Atom.Cores b) v) ((Atom.Mem b).length : Int)) = 4
      · simp only [hk, decide_true, if_true, a2, Option.bind_some, Atom.Mem_mk, Atom.Cores_mk, Atom.Outs_mk]
      · simp only [hk, decide_false, Bool.false_eq_true, if_false, Option.bind_some, Atom.Mem_mk, Atom.Cores_mk, Atom.Outs_mk]
    · have hc : ((decide ((0 : Int) ≤ picks[i])) && (decide (picks[i] < (List.length (Atom.Cores b) : Int)))) = false := by
        rw [Bool.eq_false_iff]
        intro q
        rw [Bool.and_eq_true, decide_eq_true_eq, decide_eq_true_eq] at q
        exact hv q
      rw [if_neg hv, hc, if_neg (by simp)]
      rfl) (by
    rw [atom_Run_L1_form, List.take_length]
    simp only [show ¬ (picks.length : Int) < (picks.length : Int) by omega, decide_false, Bool.false_eq_true, if_false])
  exact lp

/-! ### A new machine -/
def newOk (ps : List (List Ins)) (words : Int) : Bool := allP ps && (decide (1 ≤ words) && decide (words ≤ 64))
def newA (ps : List (List Ins)) (words : Int) : Atom := Atom.mk (List.replicate words.toNat 0) (List.replicate ps.length core0) []
theorem core0_regs : RegsOk core0 := by
  refine ⟨rfl, ?_⟩
  intro r hr
  have : r = 0 := by simpa [core0] using hr
  omega
theorem newA_ok {ps : List (List Ins)} (hps : progsOk ps) {words : Int} (h : newOk ps words = true) : AOk (newA ps words) ∧ (Atom.Cores (newA ps words)).length = ps.length ∧ (Atom.Mem (newA ps words)).length = words.toNat ∧ (1 ≤ words ∧ words ≤ 64) ∧ allP ps = true ∧ 1 ≤ ps.length := by
  unfold newOk at h
  rw [Bool.and_eq_true, Bool.and_eq_true, decide_eq_true_eq, decide_eq_true_eq] at h
  obtain ⟨h1, h2⟩ := h
  have h3 := hps.1
  have h4 : 1 ≤ ps.length := by
    unfold allP at h1
    rw [Bool.and_eq_true, decide_eq_true_eq] at h1
    exact h1.1.1
  refine ⟨⟨?_, ?_, ?_, ?_⟩, ?_, ?_, h2, h1, h4⟩
  · intro c hc
    have : c = core0 := List.eq_of_mem_replicate hc
    rw [this]; exact core0_regs
  · intro x hx
    have : x = 0 := List.eq_of_mem_replicate hx
    omega
  · show (List.replicate words.toNat (0 : Int)).length ≤ 100
    rw [List.length_replicate]; omega
  · show (List.replicate ps.length core0).length ≤ 6
    rw [List.length_replicate]; omega
  · exact List.length_replicate
  · exact List.length_replicate

theorem new_block {ps : List (List Ins)} (hps : progsOk ps) (words : Int) : (
      (isa_All ps).bind fun v3 =>
      if !v3 then
        some (true)
      else
        if decide (words < (1 : Int)) then
          some (true)
        else
          some ((decide ((64 : Int) < words))) : Option Bool) = some (!newOk ps words) := by
  rw [isa_All_eq hps]
  unfold newOk
  cases allP ps
  · rfl
  · by_cases h1 : words < 1
    · have : ¬ 1 ≤ words := by omega
      simp [h1, this]
    · have h1' : 1 ≤ words := by omega
      by_cases h2 : 64 < words
      · have : ¬ words ≤ 64 := by omega
        simp [h1, h1', h2, this]
      · have : words ≤ 64 := by omega
        simp [h1, h1', h2, this]
theorem new_inline {ps : List (List Ins)} (hps : progsOk ps) (words : Int) : (
      (
      (isa_All ps).bind fun v3 =>
      if !v3 then
        some (true)
      else
        if decide (words < (1 : Int)) then
          some (true)
        else
          some ((decide ((64 : Int) < words))) : Option Bool).bind fun v3 =>
    if v3 then
      some (((1 : Int), ([] : List Int), ([] : List Core)))
    else
      (repO (0 : Int) 4 words words).bind fun v4 =>
      let v5 : Int := (List.length ps : Int)
      (repO (Core.mk ([(0 : Int), (0 : Int), (0 : Int), (0 : Int), (0 : Int), (0 : Int), (0 : Int), (0 : Int)] : List Int) (0 : Int) false) 48 v5 v5).bind fun v6 =>
      some (((0 : Int), v4, v6)) : Option (Int × (List Int) × (List Core))) = some (if newOk ps words = true then ((0 : Int), Atom.Mem (newA ps words), Atom.Cores (newA ps words)) else ((1 : Int), [], [])) := by
  rw [new_block hps words]
  cases h : newOk ps words
  · rfl
  · obtain ⟨_, _, _, h2, _, _⟩ := newA_ok hps h
    obtain ⟨w, rfl⟩ : ∃ n : Nat, words = (n : Int) := ⟨words.toNat, by omega⟩
    have h3 := hps.1
    have r1 := repO_small (z := (0 : Int)) (b := 4) (n := w) (by omega) (by omega)
    have r2 := repO_small (z := core0) (b := 48) (n := ps.length) (by omega) (by omega)
    simp only [Option.bind_some, Bool.not_true, Bool.false_eq_true, if_false, r1, if_true]
    rw [show Core.mk ([(0 : Int), (0 : Int), (0 : Int), (0 : Int), (0 : Int), (0 : Int), (0 : Int), (0 : Int)] : List Int) (0 : Int) false = core0 from rfl, r2]
    rfl
theorem atom_Run_eq {ps : List (List Ins)} (hps : progsOk ps) (words : Int) {picks : List Int} (hp : picks.length ≤ 1000) : atom_Run ps words picks = some (if newOk ps words = true then (runS ps (newA ps words) picks, 0) else (Atom.mk [] [] [], 1)) := by
  unfold atom_Run
  rw [new_inline hps words]
  cases h : newOk ps words
  · rfl
  · obtain ⟨h1, h2, _⟩ := newA_ok hps h
    have lp := atom_Run_loop hps h1 h2 rfl hp
    rw [show Atom.Outs (newA ps words) = [] from rfl] at lp
    simp only [if_true, Option.bind_some, decide_true, Bool.not_true, Bool.false_eq_true, if_false, lp, Atom.eta]

/-! ### A machine that may be -/
def rightA (ps : List (List Ins)) (a : Atom) : Bool :=
  allP ps && (decide (1 ≤ (Atom.Mem a).length ∧ (Atom.Mem a).length ≤ 64) && (decide ((Atom.Cores a).length = ps.length) && (List.range ps.length).all fun n => rightC (progAt ps n) (coreAt (Atom.Cores a) n)))
theorem atom_Right_eq {ps : List (List Ins)} (hps : progsOk ps) (a : Atom) : atom_Right ps a = some (rightA ps a) := by
  unfold atom_Right rightA
  rw [isa_All_eq hps]
  cases hall : allP ps
  · rfl
  have h6 := hps.1
  by_cases h1 : (Atom.Mem a).length < 1
  · have e1 : ((Atom.Mem a).length : Int) < 1 := by omega
    have e2 : ¬ (1 ≤ (Atom.Mem a).length ∧ (Atom.Mem a).length ≤ 64) := by omega
    simp [e1, e2]
  by_cases h2 : 64 < (Atom.Mem a).length
  · have e1 : ¬ ((Atom.Mem a).length : Int) < 1 := by omega
    have e3 : (64 : Int) < ((Atom.Mem a).length : Int) := by omega
    have e2 : ¬ (1 ≤ (Atom.Mem a).length ∧ (Atom.Mem a).length ≤ 64) := by omega
    simp [e1, e2, e3]
  have e1 : ¬ ((Atom.Mem a).length : Int) < 1 := by omega
  have e3 : ¬ (64 : Int) < ((Atom.Mem a).length : Int) := by omega
  have e2 : (1 ≤ (Atom.Mem a).length ∧ (Atom.Mem a).length ≤ 64) := by omega
  by_cases h3 : (Atom.Cores a).length = ps.length
  · have e4 : ((Atom.Cores a).length : Int) = (ps.length : Int) := by omega
    have lp := check_all (f := atom_Right_L1 ps (Atom.Cores a) (List.length (Atom.Cores a) : Int)) (n := ps.length) (g := fun _ => some true) (fun i => (i : Int)) (fun n => rightC (progAt ps n) (coreAt (Atom.Cores a) n)) (fun i hi _ => by
      have hlt : (i : Int) < (List.length (Atom.Cores a) : Int) := by omega
      obtain ⟨p1, p2⟩ := progAt_get hi
      obtain ⟨c1, c2⟩ := coreAt_get (cs := Atom.Cores a) (n := i) (by omega)
      have hr := core_Right_eq (progAt ps i) (coreAt (Atom.Cores a) i) (by have := (hps.2 _ p2).1; omega)
      unfold atom_Right_L1
      simp only [hlt, decide_true, if_true, p1, c1, Option.bind_some, hr, w64_succ (show i < 4611686018427387904 by omega)]
      cases rightC (progAt ps i) (coreAt (Atom.Cores a) i) <;> rfl) (fun _ => by
      unfold atom_Right_L1
      have : ¬ (ps.length : Int) < (List.length (Atom.Cores a) : Int) := by omega
      simp only [this, decide_false, Bool.false_eq_true, if_false])
    rw [show (((0 : Nat) : Int)) = 0 from rfl] at lp
    simp only [Option.bind_some, Bool.not_true, Bool.false_eq_true, if_false, e1, e3, e4, decide_false, decide_true, h3, e2, and_self, Bool.true_and]
    rw [← e4, lp]
    cases (List.range ps.length).all fun n => rightC (progAt ps n) (coreAt (Atom.Cores a) n) <;> rfl
  · have e4 : ¬ ((Atom.Cores a).length : Int) = (ps.length : Int) := by omega
    simp [e1, e2, e3, e4, h3]
theorem run_right {ps : List (List Ins)} (hps : progsOk ps) : ∀ (picks : List Int) {a : Atom}, AOk a → rightA ps a = true → rightA ps (runS ps a picks) = true
  | [], a, ha, hr => hr
  | v :: picks, a, ha, hr => by
    have hl : (Atom.Cores a).length = ps.length := by
      unfold rightA at hr
      simp only [Bool.and_eq_true, decide_eq_true_eq] at hr
      exact hr.2.2.1
    refine run_right hps picks (pick_ok hps ha hl v).1 ?_
    unfold pickS
    split
    · rename_i hv
      have hn : v.toNat < ps.length := by omega
      obtain ⟨p1, p2⟩ := progAt_get hn
      unfold rightA at hr ⊢
      simp only [Bool.and_eq_true, decide_eq_true_eq] at hr ⊢
      obtain ⟨r1, r2, r3, r4⟩ := hr
      obtain ⟨l1, l2, l3⟩ := step_lens ps a v.toNat
      refine ⟨r1, by omega, by omega, ?_⟩
      rw [range_all] at r4 ⊢
      intro n hn'
      have := r4 n hn'
      by_cases he : v.toNat = n
      · subst he
        show rightC _ (coreAt ((Atom.Cores a).set v.toNat _) v.toNat) = true
        rw [coreAt_set_same (by omega)]
        exact doneF_right (hps.2 _ p2).2 this _
      · show rightC _ (coreAt ((Atom.Cores a).set v.toNat _) n) = true
        rw [coreAt_set_ne he]
        exact this
    · exact hr
theorem newA_right {ps : List (List Ins)} (hps : progsOk ps) {words : Int} (h : newOk ps words = true) : rightA ps (newA ps words) = true := by
  obtain ⟨h1, h2, h3, h4, h5, h6⟩ := newA_ok hps h
  unfold rightA
  simp only [Bool.and_eq_true, decide_eq_true_eq]
  refine ⟨h5, by omega, h2, range_all.2 fun n hn => ?_⟩
  obtain ⟨p1, p2⟩ := progAt_get hn
  have hc : coreAt (Atom.Cores (newA ps words)) n = core0 := by
    show ((List.replicate ps.length core0)[n]?).getD core0 = core0
    rw [List.getElem?_replicate]
    split <;> rfl
  rw [hc]
  have hr : rightP (progAt ps n) = true := by
    unfold allP at h5
    rw [Bool.and_eq_true, List.all_eq_true] at h5
    exact h5.2 _ p2
  unfold rightC
  rw [hr]
  unfold rightP at hr
  rw [Bool.and_eq_true, decide_eq_true_eq] at hr
  have : (0 : Int) < ((progAt ps n).length : Int) := by omega
  simp [core0, this]
  omega

end Go.Proofs.Ytihchahfnhoapaa
