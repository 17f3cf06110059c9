/- Layer 4: the law AtomRuns on typed data. -/
import Derived.Test.YtihchahfnhoapaaP04b
import Derived.Test.YtihchahfnhoapaaD042
set_option linter.unusedSimpArgs false
set_option linter.unusedVariables false
namespace Go.Proofs.Ytihchahfnhoapaa
open Go.SX

theorem small_run {ps : List (List Ins)} (hps : progsOk ps) {words : Int} (h : newOk ps words = true) (picks : List Int) (hp : picks.length ≤ 1000) : smallA (runS ps (newA ps words) picks) := by
  obtain ⟨h1, h2, _⟩ := newA_ok hps h
  obtain ⟨g1, g2, g3, g4⟩ := run_ok hps picks h1 h2
  have := g1.ml
  have := g1.cl
  have e : (Atom.Outs (newA ps words)).length = 0 := rfl
  exact ⟨by omega, by omega, by omega⟩

theorem runs_loop {ps : List (List Ins)} (hps : progsOk ps) {a : Atom} (ha : AOk a) (hl : (Atom.Cores a).length = ps.length) (ho : Atom.Outs a = []) {picks : List Int} (hp : picks.length ≤ 1000) :
    loopD (l04_AtomRuns_L1 ps picks) ((0 : Int), a) = some (runS ps a picks) := by
  have lp := loop_good (f := l04_AtomRuns_L1 ps picks) (n := picks.length) (e := runS ps a picks) (fun i => ((i : Int), runS ps a (picks.take i))) (fun i hi => by
    obtain ⟨b, hb⟩ : ∃ b, b = runS ps a (picks.take i) := ⟨_, rfl⟩
    obtain ⟨g1, g2, g3, g4⟩ := run_ok hps (picks.take i) ha hl
    rw [← hb] at g1 g2 g3 g4
    have ho4 : (Atom.Outs b).length ≤ 1000 := by rw [ho] at g4; simp at g4; omega
    have hlt : (i : Int) < (picks.length : Int) := by omega
    rw [run_take hi, ← hb]
    unfold l04_AtomRuns_L1
    simp only [hlt, decide_true, if_true, getO_in hi, Option.bind_some, w64_succ (show i < 4611686018427387904 by omega)]
    unfold pickS
    by_cases h0 : 0 ≤ picks[i]
    · by_cases h1 : picks[i] < (ps.length : Int)
      · have hv : 0 ≤ picks[i] ∧ picks[i] < ((Atom.Cores b).length : Int) := by omega
        rw [if_pos hv]
        obtain ⟨v, hvn⟩ : ∃ v : Nat, picks[i] = (v : Int) := ⟨picks[i].toNat, by omega⟩
        rw [hvn] at h0 h1 ⊢
        simp only [h0, h1, decide_true, if_true, Option.bind_some, r04_Step_eq hps g1 (show (Atom.Outs b).length ≤ 100000 by omega) (show v < ps.length by omega) (show v < (Atom.Cores b).length by omega), Int.toNat_natCast]
      · have hv : ¬ (0 ≤ picks[i] ∧ picks[i] < ((Atom.Cores b).length : Int)) := by omega
        rw [if_neg hv]
        simp only [h0, h1, decide_true, decide_false, if_true, Option.bind_some, Bool.false_eq_true, if_false]
    · have hv : ¬ (0 ≤ picks[i] ∧ picks[i] < ((Atom.Cores b).length : Int)) := by omega
      rw [if_neg hv]
      simp only [h0, decide_false, Option.bind_some, Bool.false_eq_true, if_false]) (by
    unfold l04_AtomRuns_L1
    simp only [show ¬ (picks.length : Int) < (picks.length : Int) by omega, decide_false, Bool.false_eq_true, if_false, List.take_length])
  exact lp

theorem atomRuns_all (ps : List (List Ins)) (words : Int) (picks : List Int) (hK : ∀ p ∈ ps, insOk p) : l04_AtomRuns ps words picks = some true := by
  unfold l04_AtomRuns
  rw [r02_Short_eq]
  cases hs : shortP ps
  · rfl
  have hps := short_ok hs hK
  by_cases hp : (300 : Int) < (picks.length : Int)
  · simp [l04_awake, hp]
  have hp1 : picks.length ≤ 1000 := by omega
  simp only [l04_awake, Bool.not_true, Bool.false_eq_true, if_false, Option.bind_some, hp, decide_false, atom_Run_eq hps words hp1, r04_New_eq hps words]
  cases hn : newOk ps words
  · have hsm : smallA (Atom.mk [] [] []) := ⟨by simp, by simp, by simp⟩
    simp only [Bool.false_eq_true, if_false, show ¬ (1 : Int) = 0 by omega, decide_false, Bool.not_false, if_true, decide_true, r04_Same_refl _ hsm, Option.bind_some]
  · obtain ⟨h1, h2, _⟩ := newA_ok hps hn
    simp only [if_true, decide_true, Bool.not_true, Bool.false_eq_true, if_false, runs_loop hps h1 h2 rfl hp1, r04_Same_refl _ (small_run hps hn picks hp1), atom_Right_eq hps, run_right hps picks h1 (newA_right hps hn), Option.bind_some]

theorem atomRuns_ok (x : Ty.Tup F_l04_AtomRuns.ps) (h : OkL F_l04_AtomRuns.ps x) : F_l04_AtomRuns.sem x = some true :=
  atomRuns_all x.1 x.2.1 x.2.2 fun p hp y hy => by
    have := ((h.1.2 p hp).2 y hy).2.2.2.2
    exact ⟨this.1, Int.lt_of_le_of_lt this.2 (by decide)⟩

end Go.Proofs.Ytihchahfnhoapaa
