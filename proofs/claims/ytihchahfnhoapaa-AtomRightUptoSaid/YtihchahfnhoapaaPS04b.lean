/- Layer 4: one step, a run, a new machine, a machine that may be. -/
import Derived.Test.YtihchahfnhoapaaPS04
set_option linter.unusedSimpArgs false
set_option linter.unusedVariables false
namespace Go.Proofs.Ytihchahfnhoapaa
open Go.SX

theorem appO_big {α : Type} {b : Nat} {s x : List α} (h : s.length + x.length ≤ 4000000) (hb : b ≤ 1000) : appO b s x = some (s ++ x) :=
  appO_ok (roomOk_of (Nat.le_trans (Nat.mul_le_mul h hb) (by omega)) (by omega))
theorem cloneO_big {α : Type} {b : Nat} {s : List α} (h : s.length ≤ 4000000) (hb : b ≤ 1000) : cloneO b s = some s :=
  cloneO_ok (roomOk_of (Nat.le_trans (Nat.mul_le_mul h hb) (by omega)) (by omega))
def core0 : Core := Core.mk [0, 0, 0, 0, 0, 0, 0, 0] 0 false
def progAt (ps : List (List Ins)) (n : Nat) : List Ins := ps[n]?.getD []
def coreAt (cs : List Core) (n : Nat) : Core := cs[n]?.getD core0
def wantA (ps : List (List Ins)) (a : Atom) (n : Nat) : Want := wantF (progAt ps n) (coreAt (Atom.Cores a) n) ((Atom.Mem a).length : Int)
def stepA (ps : List (List Ins)) (a : Atom) (n : Nat) : Atom :=
  Atom.mk (actS (Atom.Mem a) (wantA ps a n)).1 ((Atom.Cores a).set n (doneF (progAt ps n) (coreAt (Atom.Cores a) n) (actS (Atom.Mem a) (wantA ps a n)).2))
    (if Want.Kind (wantA ps a n) = 4 then Atom.Outs a ++ [Told.mk (n : Int) (Want.Val (wantA ps a n))] else Atom.Outs a)
structure AOk (a : Atom) : Prop where
  regs : ∀ c ∈ Atom.Cores a, RegsOk c
  mem : wordsOk (Atom.Mem a)
  ml : (Atom.Mem a).length ≤ 100
  cl : (Atom.Cores a).length ≤ 6
theorem progAt_get {ps : List (List Ins)} {n : Nat} (h : n < ps.length) : getO ps (n : Int) = some (progAt ps n) ∧ progAt ps n ∈ ps := by
  have e : progAt ps n = ps[n] := by unfold progAt; rw [List.getElem?_eq_getElem h]; rfl
  exact ⟨by rw [getO_in h, e], by rw [e]; exact List.getElem_mem h⟩
theorem coreAt_get {cs : List Core} {n : Nat} (h : n < cs.length) : getO cs (n : Int) = some (coreAt cs n) ∧ coreAt cs n ∈ cs := by
  have e : coreAt cs n = cs[n] := by unfold coreAt; rw [List.getElem?_eq_getElem h]; rfl
  exact ⟨by rw [getO_in h, e], by rw [e]; exact List.getElem_mem h⟩
theorem coreAt_set_same {cs : List Core} {n : Nat} (h : n < cs.length) (c : Core) : coreAt (cs.set n c) n = c := by
  unfold coreAt
  rw [List.getElem?_set_self h]
  rfl
theorem coreAt_set_ne {cs : List Core} {n k : Nat} (h : n ≠ k) (c : Core) : coreAt (cs.set n c) k = coreAt cs k := by
  unfold coreAt
  rw [List.getElem?_set_ne h]

theorem step_ok {ps : List (List Ins)} (hps : progsOk ps) {a : Atom} (ha : AOk a) {n : Nat} (hn : n < ps.length) (hc : n < (Atom.Cores a).length) : AOk (stepA ps a n) := by
  obtain ⟨p1, p2⟩ := progAt_get hn
  obtain ⟨c1, c2⟩ := coreAt_get hc
  have hv := wantF_val (p := progAt ps n) (ha.regs _ c2) ((Atom.Mem a).length : Int)
  obtain ⟨q1, q2⟩ := actS_ok ha.mem hv
  refine ⟨?_, q1, ?_, ?_⟩
  · intro c hcm
    rcases List.mem_or_eq_of_mem_set hcm with q | q
    · exact ha.regs c q
    · rw [q]; exact doneF_regs (hps.2 _ p2).2 (ha.regs _ c2) q2
  · show (actS (Atom.Mem a) (wantA ps a n)).1.length ≤ 100
    rw [actS_len]; exact ha.ml
  · show ((Atom.Cores a).set n _).length ≤ 6
    rw [List.length_set]; exact ha.cl
theorem step_lens (ps : List (List Ins)) (a : Atom) (n : Nat) : (Atom.Mem (stepA ps a n)).length = (Atom.Mem a).length ∧ (Atom.Cores (stepA ps a n)).length = (Atom.Cores a).length ∧ (Atom.Outs (stepA ps a n)).length ≤ (Atom.Outs a).length + 1 := by
  refine ⟨actS_len _ _, List.length_set, ?_⟩
  show (if Want.Kind (wantA ps a n) = 4 then Atom.Outs a ++ [Told.mk (n : Int) (Want.Val (wantA ps a n))] else Atom.Outs a).length ≤ _
  split
  · simp
  · omega

theorem r04_Step_eq {ps : List (List Ins)} (hps : progsOk ps) {a : Atom} (ha : AOk a) (ho : (Atom.Outs a).length ≤ 2000000) {n : Nat} (hn : n < ps.length) (hc : n < (Atom.Cores a).length) : r04_Step ps a (n : Int) = some (stepA ps a n) := by
  obtain ⟨p1, p2⟩ := progAt_get hn
  obtain ⟨c1, c2⟩ := coreAt_get hc
  obtain ⟨k1, k2⟩ := hps.2 _ p2
  have hm := ha.ml
  have hcl := ha.cl
  have a1 : appO 16 ([] : List Told) (Atom.Outs a) = some (Atom.Outs a) := by rw [appO_big (by simp; omega) (by omega), List.nil_append]
  have a2 : ∀ x, appO 16 (Atom.Outs a) ([x] : List Told) = some (Atom.Outs a ++ [x]) := fun x => appO_big (by simp; omega) (by omega)
  have a3 : appO 48 ([] : List Core) (Atom.Cores a) = some (Atom.Cores a) := by rw [appO_big (by simp; omega) (by omega), List.nil_append]
  have hs : ∀ v, setO (Atom.Cores a) (n : Int) v = some ((Atom.Cores a).set n v) := fun v => setO_in hc
  unfold r04_Step stepA wantA
  simp only [p1, c1, Option.bind_some, r03_Wants_all k2 (by omega) (ha.regs _ c2), r04_Act_eq (show (Atom.Mem a).length ≤ 1000 by omega), Atom.setMem_eq, Atom.Mem_mk, Atom.Cores_mk, Atom.Outs_mk]
  by_cases hk : Want.Kind (wantF (progAt ps n) (coreAt (Atom.Cores a) n) ((Atom.Mem a).length : Int)) = 4
  · simp only [hk, decide_true, if_true, a1, a2, a3, Option.bind_some, idxO_in hc, c1, r03_Done_all k2 (show (progAt ps n).length ≤ 1000 by omega) (ha.regs _ c2), hs]
  · simp only [hk, decide_false, Bool.false_eq_true, if_false, a3, Option.bind_some, idxO_in hc, c1, r03_Done_all k2 (show (progAt ps n).length ≤ 1000 by omega) (ha.regs _ c2), hs]

/-! ### A new machine -/
def newOk (ps : List (List Ins)) (words : Int) : Bool := allP ps && (decide (1 ≤ words) && decide (words ≤ 64))
def newA (ps : List (List Ins)) (words : Int) : Atom := Atom.mk (List.replicate words.toNat 0) (List.replicate ps.length core0) []
theorem core0_regs : RegsOk core0 := by
  refine ⟨rfl, ?_⟩
  intro r hr
  have : r = 0 := by simpa [core0] using hr
  omega
theorem newA_ok {ps : List (List Ins)} (hps : progsOk ps) {words : Int} (h : newOk ps words = true) : AOk (newA ps words) ∧ (Atom.Cores (newA ps words)).length = ps.length ∧ (Atom.Mem (newA ps words)).length = words.toNat ∧ (1 ≤ words ∧ words ≤ 64) ∧ allP ps = true ∧ 1 ≤ ps.length := by
  unfold newOk at h
  rw [Bool.and_eq_true, Bool.and_eq_true, decide_eq_true_eq, decide_eq_true_eq] at h
  obtain ⟨h1, h2⟩ := h
  have h3 := hps.1
  have h4 : 1 ≤ ps.length := by
    unfold allP at h1
    rw [Bool.and_eq_true, decide_eq_true_eq] at h1
    exact h1.1.1
  refine ⟨⟨?_, ?_, ?_, ?_⟩, ?_, ?_, h2, h1, h4⟩
  · intro c hc
    have : c = core0 := List.eq_of_mem_replicate hc
    rw [this]; exact core0_regs
  · intro x hx
    have : x = 0 := List.eq_of_mem_replicate hx
    omega
  · show (List.replicate words.toNat (0 : Int)).length ≤ 100
    rw [List.length_replicate]; omega
  · show (List.replicate ps.length core0).length ≤ 6
    rw [List.length_replicate]; omega
  · exact List.length_replicate
  · exact List.length_replicate

theorem new_block {ps : List (List Ins)} (hps : progsOk ps) (words : Int) : (
      (isa_All ps).bind fun v3 =>
      if !v3 then
        some (true)
      else
        if decide (words < (1 : Int)) then
          some (true)
        else
          some ((decide ((64 : Int) < words))) : Option Bool) = some (!newOk ps words) := by
  rw [isa_All_eq hps]
  unfold newOk
  cases allP ps
  · rfl
  · by_cases h1 : words < 1
    · have : ¬ 1 ≤ words := by omega
      simp [h1, this]
    · have h1' : 1 ≤ words := by omega
      by_cases h2 : 64 < words
      · have : ¬ words ≤ 64 := by omega
        simp [h1, h1', h2, this]
      · have : words ≤ 64 := by omega
        simp [h1, h1', h2, this]
theorem r04_New_eq {ps : List (List Ins)} (hps : progsOk ps) (words : Int) : r04_New ps words = some (if newOk ps words = true then (newA ps words, 0) else (Atom.mk [] [] [], 1)) := by
  unfold r04_New
  have hb : (
    (r02_All ps).bind fun v2 =>
    if !v2 then
      some (true)
    else
      if decide (words < (1 : Int)) then
        some (true)
      else
        some ((decide ((64 : Int) < words))) : Option Bool) = some (!newOk ps words) := by
    rw [r02_All_eq hps, ← isa_All_eq hps]
    exact new_block hps words
  rw [hb]
  cases h : newOk ps words
  · rfl
  · obtain ⟨_, _, _, h2, _, _⟩ := newA_ok hps h
    obtain ⟨w, rfl⟩ : ∃ n : Nat, words = (n : Int) := ⟨words.toNat, by omega⟩
    have h3 := hps.1
    have r1 := repO_small (z := (0 : Int)) (b := 4) (n := w) (by omega) (by omega)
    have r2 := repO_small (z := core0) (b := 48) (n := ps.length) (by omega) (by omega)
    simp only [Option.bind_some, Bool.not_true, Bool.false_eq_true, if_false, r1, if_true]
    rw [show Core.mk ([(0 : Int), (0 : Int), (0 : Int), (0 : Int), (0 : Int), (0 : Int), (0 : Int), (0 : Int)] : List Int) (0 : Int) false = core0 from rfl, r2]
    rfl
theorem new_inline {ps : List (List Ins)} (hps : progsOk ps) (words : Int) : (
      (
      (isa_All ps).bind fun v3 =>
      if !v3 then
        some (true)
      else
        if decide (words < (1 : Int)) then
          some (true)
        else
          some ((decide ((64 : Int) < words))) : Option Bool).bind fun v3 =>
    if v3 then
      some (((1 : Int), ([] : List Int), ([] : List Core)))
    else
      (repO (0 : Int) 4 words words).bind fun v4 =>
      let v5 : Int := (List.length ps : Int)
      (repO (Core.mk ([(0 : Int), (0 : Int), (0 : Int), (0 : Int), (0 : Int), (0 : Int), (0 : Int), (0 : Int)] : List Int) (0 : Int) false) 48 v5 v5).bind fun v6 =>
      some (((0 : Int), v4, v6)) : Option (Int × (List Int) × (List Core))) = some (if newOk ps words = true then ((0 : Int), Atom.Mem (newA ps words), Atom.Cores (newA ps words)) else ((1 : Int), [], [])) := by
  rw [new_block hps words]
  cases h : newOk ps words
  · rfl
  · obtain ⟨_, _, _, h2, _, _⟩ := newA_ok hps h
    obtain ⟨w, rfl⟩ : ∃ n : Nat, words = (n : Int) := ⟨words.toNat, by omega⟩
    have h3 := hps.1
    have r1 := repO_small (z := (0 : Int)) (b := 4) (n := w) (by omega) (by omega)
    have r2 := repO_small (z := core0) (b := 48) (n := ps.length) (by omega) (by omega)
    simp only [Option.bind_some, Bool.not_true, Bool.false_eq_true, if_false, r1, if_true]
    rw [show Core.mk ([(0 : Int), (0 : Int), (0 : Int), (0 : Int), (0 : Int), (0 : Int), (0 : Int), (0 : Int)] : List Int) (0 : Int) false = core0 from rfl, r2]
    rfl
/-! ### A machine that may be -/
def rightA (ps : List (List Ins)) (a : Atom) : Bool :=
  allP ps && (decide (1 ≤ (Atom.Mem a).length ∧ (Atom.Mem a).length ≤ 64) && (decide ((Atom.Cores a).length = ps.length) && (List.range ps.length).all fun n => rightC (progAt ps n) (coreAt (Atom.Cores a) n)))
theorem atom_Right_eq {ps : List (List Ins)} (hps : progsOk ps) (a : Atom) : atom_Right ps a = some (rightA ps a) := by
  unfold atom_Right rightA
  rw [isa_All_eq hps]
  cases hall : allP ps
  · rfl
  have h6 := hps.1
  by_cases h1 : (Atom.Mem a).length < 1
  · have e1 : ((Atom.Mem a).length : Int) < 1 := by omega
    have e2 : ¬ (1 ≤ (Atom.Mem a).length ∧ (Atom.Mem a).length ≤ 64) := by omega
    simp [e1, e2]
  by_cases h2 : 64 < (Atom.Mem a).length
  · have e1 : ¬ ((Atom.Mem a).length : Int) < 1 := by omega
    have e3 : (64 : Int) < ((Atom.Mem a).length : Int) := by omega
    have e2 : ¬ (1 ≤ (Atom.Mem a).length ∧ (Atom.Mem a).length ≤ 64) := by omega
    simp [e1, e2, e3]
  have e1 : ¬ ((Atom.Mem a).length : Int) < 1 := by omega
  have e3 : ¬ (64 : Int) < ((Atom.Mem a).length : Int) := by omega
  have e2 : (1 ≤ (Atom.Mem a).length ∧ (Atom.Mem a).length ≤ 64) := by omega
  by_cases h3 : (Atom.Cores a).length = ps.length
  · have e4 : ((Atom.Cores a).length : Int) = (ps.length : Int) := by omega
    have lp := check_all (f := atom_Right_L1 ps (Atom.Cores a) (List.length (Atom.Cores a) : Int)) (n := ps.length) (g := fun _ => some true) (fun i => (i : Int)) (fun n => rightC (progAt ps n) (coreAt (Atom.Cores a) n)) (fun i hi _ => by
      have hlt : (i : Int) < (List.length (Atom.Cores a) : Int) := by omega
      obtain ⟨p1, p2⟩ := progAt_get hi
      obtain ⟨c1, c2⟩ := coreAt_get (cs := Atom.Cores a) (n := i) (by omega)
      have hr := core_Right_eq (progAt ps i) (coreAt (Atom.Cores a) i) (by have := (hps.2 _ p2).1; omega)
      unfold atom_Right_L1
      simp only [hlt, decide_true, if_true, p1, c1, Option.bind_some, hr, w64_succ (show i < 4611686018427387904 by omega)]
      cases rightC (progAt ps i) (coreAt (Atom.Cores a) i) <;> rfl) (fun _ => by
      unfold atom_Right_L1
      have : ¬ (ps.length : Int) < (List.length (Atom.Cores a) : Int) := by omega
      simp only [this, decide_false, Bool.false_eq_true, if_false])
    rw [show (((0 : Nat) : Int)) = 0 from rfl] at lp
    simp only [Option.bind_some, Bool.not_true, Bool.false_eq_true, if_false, e1, e3, e4, decide_false, decide_true, h3, e2, and_self, Bool.true_and]
    rw [← e4, lp]
    cases (List.range ps.length).all fun n => rightC (progAt ps n) (coreAt (Atom.Cores a) n) <;> rfl
  · have e4 : ¬ ((Atom.Cores a).length : Int) = (ps.length : Int) := by omega
    simp [e1, e2, e3, e4, h3]
end Go.Proofs.Ytihchahfnhoapaa
