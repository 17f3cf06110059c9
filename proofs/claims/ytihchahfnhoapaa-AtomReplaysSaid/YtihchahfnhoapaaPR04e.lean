/- Layer 4: the law AtomReplays on typed data. -/
import Derived.Test.YtihchahfnhoapaaPR04s
import Derived.Test.YtihchahfnhoapaaD043
set_option linter.unusedSimpArgs false
set_option linter.unusedVariables false
namespace Go.Proofs.Ytihchahfnhoapaa
open Go.SX

theorem atom_Over_eq (a : Atom) (hl : (Atom.Cores a).length ≤ 1000) : atom_Over a = some ((Atom.Cores a).all fun c => Core.Halted c) := by
  unfold atom_Over
  obtain ⟨xs, hxs⟩ : ∃ xs, xs = Atom.Cores a := ⟨_, rfl⟩
  rw [← hxs] at hl ⊢
  have lp := loop_first (f := atom_Over_L1 xs (List.length xs : Int)) (n := xs.length) (fun i => (i : Int)) (fun i => optT (fun c => Core.Halted c) xs[i]?) (e := (Sum.inl () : Unit ⊕ Int)) (r := fun i => .inr (i : Int)) (fun i hi _ => by
    have hlt : (i : Int) < (List.length xs : Int) := by omega
    rw [optT_in hi]
    unfold atom_Over_L1
    simp only [hlt, decide_true, if_true, getO_in hi, Option.bind_some, atom_Over_1, w64_succ (show i < 4611686018427387904 by omega)]
    cases Core.Halted xs[i] <;> rfl) (fun _ => by
    unfold atom_Over_L1
    simp only [show ¬ (List.length xs : Int) < (List.length xs : Int) by omega, decide_false, Bool.false_eq_true, if_false])
  rw [show (((0 : Nat) : Int)) = 0 from rfl] at lp
  have f1 := (firstI_facts (fun i => optT (fun c => Core.Halted c) xs[i]?) xs.length).1
  have f2 := firstI_all (ok := fun i => optT (fun c => Core.Halted c) xs[i]?) (n := xs.length)
  rw [← range_all, ← all_range] at f2
  simp only [lp]
  by_cases ha : (xs.all fun c => Core.Halted c) = true
  · have := f2.2 ha
    rw [if_neg (by omega), ha]
    rfl
  · have : firstI (fun i => optT (fun c => Core.Halted c) xs[i]?) xs.length < xs.length := by
      rcases Nat.lt_or_ge (firstI (fun i => optT (fun c => Core.Halted c) xs[i]?) xs.length) xs.length with q | q
      · exact q
      · exact absurd (f2.1 (by omega)) ha
    rw [if_pos this, Bool.eq_false_iff.2 ha]
    have h0 : (0 : Int) ≤ ((firstI (fun i => optT (fun c => Core.Halted c) xs[i]?) xs.length : Nat) : Int) := by omega
    simp only [orExit_inr, Option.bind_some, h0, decide_true, Bool.not_true]

theorem list_set_self {α : Type} {l : List α} {n : Nat} {x : α} (h : l[n]? = some x) : l.set n x = l := by
  apply List.ext_getElem?
  intro i
  rw [List.getElem?_set]
  split
  · rename_i hi
    subst hi
    split
    · exact h.symm
    · rename_i hl
      rw [List.getElem?_eq_none (by omega)]
  · rfl
/-- A core that has halted. -/
theorem halted_step {ps : List (List Ins)} {a : Atom} {n : Nat} (hc : n < (Atom.Cores a).length) (h : Core.Halted (coreAt (Atom.Cores a) n) = true) : stepA ps a n = a := by
  have hg : goesC (progAt ps n) (coreAt (Atom.Cores a) n) = false := by unfold goesC; rw [h]; simp
  have hw : wantA ps a n = Want.mk 5 0 0 0 := by
    unfold wantA wantF
    rw [hg, if_neg (by simp)]
  have hd : ∀ was, doneF (progAt ps n) (coreAt (Atom.Cores a) n) was = coreAt (Atom.Cores a) n := fun was => by
    unfold doneF
    rw [hg, if_neg (by simp)]
  unfold stepA
  rw [hw, hd, actS_rest (show ¬ (1 ≤ Want.Kind (Want.mk 5 0 0 0) ∧ Want.Kind (Want.mk 5 0 0 0) ≤ 3) by decide), if_neg (show ¬ Want.Kind (Want.mk 5 0 0 0) = 4 by decide)]
  have hs : (Atom.Cores a).set n (coreAt (Atom.Cores a) n) = Atom.Cores a := by
    apply list_set_self
    unfold coreAt
    rw [List.getElem?_eq_getElem hc]
    rfl
  rw [hs]
  exact Atom.eta a

/-- How many of the first ones are so. -/
def howN (p : Nat → Bool) : Nat → Nat
  | 0 => 0
  | i + 1 => if p i = true then howN p i + 1 else howN p i
theorem howN_le (p : Nat → Bool) : ∀ i, howN p i ≤ i
  | 0 => Nat.le_refl 0
  | i + 1 => by
    have := howN_le p i
    simp only [howN]
    split <;> omega
theorem howN_one (p : Nat → Bool) (k : Nat) (h : ∀ i, p i = true → i = k) : ∀ i, howN p i ≤ 1 ∧ (i ≤ k → howN p i = 0)
  | 0 => ⟨by simp [howN], fun _ => rfl⟩
  | i + 1 => by
    obtain ⟨h1, h2⟩ := howN_one p k h i
    simp only [howN]
    by_cases hp : p i = true
    · have := h i hp
      rw [if_pos hp]
      have := h2 (by omega)
      exact ⟨by omega, fun q => by omega⟩
    · rw [if_neg hp]
      exact ⟨h1, fun q => h2 (by omega)⟩
theorem act_one (mem : List Int) (w : Want) (i : Nat) (hi : i ≠ (Want.At w).toNat) : ((actS mem w).1)[i]? = mem[i]? := by
  unfold actS
  split
  · dsimp only
    split
    · rw [List.getElem?_set_ne (fun q => hi q.symm)]
    · rfl
  · rfl

theorem replay_L2 (mem : List Int) (b : Atom) (hl : (Atom.Mem b).length = mem.length) (hm : mem.length ≤ 1000) (k : Nat) (hk : ∀ i, i ≠ k → (Atom.Mem b)[i]? = mem[i]?) : ∃ t : Nat, loopD (l04_AtomReplays_L2 mem b) ((0 : Int), (0 : Int)) = some (t : Int) ∧ t ≤ 1 := by
  obtain ⟨p, hp⟩ : ∃ p : Nat → Bool, p = fun i => !decide (mem[i]? = (Atom.Mem b)[i]?) := ⟨_, rfl⟩
  refine ⟨howN p mem.length, ?_, (howN_one p k (fun i hi => ?_) mem.length).1⟩
  · have lp := loop_good (f := l04_AtomReplays_L2 mem b) (n := mem.length) (e := (howN p mem.length : Int)) (fun i => ((howN p i : Int), (i : Int))) (fun i hi => by
      have hlt : (i : Int) < (List.length mem : Int) := by omega
      have hh := howN_le p i
      have hpi : p i = !decide (mem[i] = (Atom.Mem b)[i]'(by omega)) := by
        rw [hp]
        dsimp only
        rw [List.getElem?_eq_getElem hi, List.getElem?_eq_getElem (by omega)]
        simp
      have hv : (bif !decide (mem[i] = (Atom.Mem b)[i]'(by omega)) then w64 ((howN p i : Int) + (1 : Int)) else (howN p i : Int)) = ((howN p (i + 1) : Nat) : Int) := by
        rw [← hpi]
        simp only [howN]
        cases p i
        · rfl
        · exact w64_succ (by omega)
      unfold l04_AtomReplays_L2
      simp only [hlt, decide_true, if_true, getO_in hi, getO_in (l := Atom.Mem b) (i := i) (by omega), Option.bind_some, hv, w64_succ (show i < 4611686018427387904 by omega)]) (by
      unfold l04_AtomReplays_L2
      simp only [show ¬ (mem.length : Int) < (List.length mem : Int) by omega, decide_false, Bool.false_eq_true, if_false])
    exact lp
  · rcases Nat.decEq i k with q | q
    · rw [hp] at hi
      dsimp only at hi
      rw [hk i q] at hi
      simp at hi
    · exact q

theorem replay_L1 (cs : List Core) (n : Nat) (b : Atom) (hl : (Atom.Cores b).length = cs.length) (hm : cs.length ≤ 1000) (hk : ∀ i, i ≠ n → (Atom.Cores b)[i]? = cs[i]?) : loopD (l04_AtomReplays_L1 cs (n : Int) b) (0 : Int) = some (.inl ()) := by
  have lp := loop_good (f := l04_AtomReplays_L1 cs (n : Int) b) (n := cs.length) (e := (Sum.inl () : Unit ⊕ (Int × (List Int) × (List Core) × (List Told) × (List Int)) ⊕ ((List Int) × (List Core) × (List Told) × (List Int)) ⊕ Bool)) (fun i => (i : Int)) (fun i hi => by
    have hlt : (i : Int) < (List.length cs : Int) := by omega
    unfold l04_AtomReplays_L1
    by_cases hin : i = n
    · subst hin
      simp only [hlt, decide_true, if_true, Bool.not_true, Bool.false_eq_true, if_false, Option.bind_some, w64_succ (show i < 4611686018427387904 by omega)]
    · have hin' : ¬ (i : Int) = (n : Int) := by omega
      have he : (Atom.Cores b)[i]'(by omega) = cs[i] := by
        have := hk i hin
        rw [List.getElem?_eq_getElem hi, List.getElem?_eq_getElem (by omega)] at this
        exact Option.some.inj this
      have hd : @decide (cs[i] = cs[i]) (Ty.dec tCore _ _) = true := decCore _ _ rfl
      simp only [hlt, decide_true, if_true, hin', decide_false, Bool.not_false, getO_in hi, getO_in (l := Atom.Cores b) (i := i) (by omega), he, hd, Option.bind_some, Bool.not_true, Bool.false_eq_true, if_false, w64_succ (show i < 4611686018427387904 by omega)]) (by
    unfold l04_AtomReplays_L1
    simp only [show ¬ (cs.length : Int) < (List.length cs : Int) by omega, decide_false, Bool.false_eq_true, if_false])
  exact lp

/-- The cores that were picked. -/
def nthL (ps : List (List Ins)) (picks : List Int) : List Int := picks.map fun v => v % (ps.length : Int)
theorem atomReplays_all (ps : List (List Ins)) (words : Int) (picks : List Int) (hK : ∀ p ∈ ps, insOk p) (hw : 0 ≤ words ∧ words < 256) (hpk : ∀ v ∈ picks, 0 ≤ v ∧ v < 256) : l04_AtomReplays ps words picks = some true := by
  unfold l04_AtomReplays
  rw [r02_Short_eq]
  cases hs : shortP ps
  · rfl
  have hps := short_ok hs hK
  by_cases hp : (150 : Int) < (picks.length : Int)
  · simp [l04_awake, hp]
  have hp1 : picks.length ≤ 1000 := by omega
  obtain ⟨r1, a1, b1⟩ := rem_pos hw.1 (show (0 : Int) < 64 by omega)
  have hw2 : w64 (w64 (words % 64) + 1) = words % 64 + 1 := by rw [w64_id (n := words % 64) (by omega) (by omega), w64_id (by omega) (by omega)]
  have hni := new_inline hps (words % 64 + 1)
  simp only [l04_awake, Bool.not_true, Bool.false_eq_true, if_false, Option.bind_some, hp, decide_false, r1, hw2]
  rw [hni]
  cases hn : newOk ps (words % 64 + 1)
  · rfl
  · obtain ⟨h1, h2, _, _, _, h6⟩ := newA_ok hps hn
    obtain ⟨a0, ha0⟩ : ∃ a, a = newA ps (words % 64 + 1) := ⟨_, rfl⟩
    have hr0 : rightA ps a0 = true := by rw [ha0]; exact newA_right hps hn
    have ho0 : Atom.Outs a0 = [] := by rw [ha0]; rfl
    rw [← ha0] at h1 h2
    rw [← ha0]
    have hnl : (nthL ps picks).length = picks.length := by simp [nthL]
    have lp := loop_good (f := l04_AtomReplays_L3 ps picks) (n := picks.length) (e := (Sum.inl (Atom.Mem (runS ps a0 (nthL ps picks)), Atom.Cores (runS ps a0 (nthL ps picks)), Atom.Outs (runS ps a0 (nthL ps picks)), nthL ps picks) : ((List Int) × (List Core) × (List Told) × (List Int)) ⊕ Bool))
      (fun i => ((i : Int), Atom.Mem (runS ps a0 ((nthL ps picks).take i)), Atom.Cores (runS ps a0 ((nthL ps picks).take i)), Atom.Outs (runS ps a0 ((nthL ps picks).take i)), (nthL ps picks).take i)) (fun i hi => by
      obtain ⟨a, ha⟩ : ∃ a, a = runS ps a0 ((nthL ps picks).take i) := ⟨_, rfl⟩
      obtain ⟨g1, g2, g3, g4⟩ := run_ok hps ((nthL ps picks).take i) h1 h2
      have g5 := run_right hps ((nthL ps picks).take i) h1 hr0
      rw [← ha] at g1 g2 g3 g4 g5
      have ho4 : (Atom.Outs a).length ≤ 1000 := by rw [ho0] at g4; simp at g4; omega
      have hlt : (i : Int) < (List.length picks : Int) := by omega
      have hin : i < (nthL ps picks).length := by omega
      obtain ⟨n, n1, n2⟩ := rem_nat picks[i] (hpk _ (List.getElem_mem hi)) ps.length h6
      have hnth : (nthL ps picks)[i] = (n : Int) := by
        have hw' : w64 picks[i] = picks[i] := by
          have := hpk _ (List.getElem_mem hi)
          exact w64_id (by omega) (by omega)
        obtain ⟨z1, z2, z3⟩ := rem_pos (hpk _ (List.getElem_mem hi)).1 (show (0 : Int) < (ps.length : Int) by omega)
        rw [hw', z1] at n1
        have : (nthL ps picks)[i] = picks[i] % (ps.length : Int) := by simp [nthL]
        rw [this]
        exact Option.some.inj n1
      have hap : appO 8 ((nthL ps picks).take i) ([(n : Int)] : List Int) = some ((nthL ps picks).take (i + 1)) := by
        rw [appO_small (by simp; omega) (by omega), take_succ_get hin, hnth]
      have hnc : n < (Atom.Cores a).length := by omega
      obtain ⟨c1, c2⟩ := coreAt_get hnc
      have hst := atom_Step_eq hps g1 (show (Atom.Outs a).length ≤ 100000 by omega) g5 n2
      obtain ⟨l1, l2, l3⟩ := step_lens ps a n
      have hpick : pickS ps a (n : Int) = stepA ps a n := by
        unfold pickS
        rw [if_pos (by omega), Int.toNat_natCast]
      have hout : Atom.Outs (stepA ps a n) = if Want.Kind (wantA ps a n) = 4 then Atom.Outs a ++ [Told.mk (n : Int) (Want.Val (wantA ps a n))] else Atom.Outs a := rfl
      have hsub : subO (Atom.Outs (stepA ps a n)) (0 : Int) (List.length (Atom.Outs a) : Int) = some (Atom.Outs a) := by
        have hge : (Atom.Outs a).length ≤ (Atom.Outs (stepA ps a n)).length := by
          rw [hout]
          split
          · simp
          · omega
        have := subO_in (l := Atom.Outs (stepA ps a n)) (i := 0) (j := (Atom.Outs a).length) (by omega) hge
        rw [List.drop_zero] at this
        rw [show (0 : Int) = ((0 : Nat) : Int) from rfl, this]
        congr 1
        rw [hout]
        split
        · exact List.take_left
        · exact List.take_length
      have hge : ¬ (List.length (Atom.Outs (stepA ps a n)) : Int) < (List.length (Atom.Outs a) : Int) := by
        rw [hout]
        split
        · simp; omega
        · omega
      have hle : ¬ w64 ((List.length (Atom.Outs a) : Int) + 1) < (List.length (Atom.Outs (stepA ps a n)) : Int) := by
        rw [w64_succ (by omega)]
        omega
      have hmi : ∀ j, j ≠ (Want.At (wantA ps a n)).toNat → (Atom.Mem (stepA ps a n))[j]? = (Atom.Mem a)[j]? := fun j hj => act_one _ _ j hj
      have hml := g1.ml
      have hcl := g1.cl
      obtain ⟨t, t1, t2⟩ := replay_L2 (Atom.Mem a) (stepA ps a n) l1 (by omega) _ hmi
      have t3 := replay_L1 (Atom.Cores a) n (stepA ps a n) l2 (by omega) (fun j hj => by
        show ((Atom.Cores a).set n _)[j]? = _
        rw [List.getElem?_set_ne (fun q => hj q.symm)])
      have ht : ¬ (1 : Int) < (t : Int) := by omega
      have hover : (atom_Over (Atom.mk (Atom.Mem a) (Atom.Cores a) (Atom.Outs a))) = some ((Atom.Cores a).all fun c => Core.Halted c) := atom_Over_eq _ (by show (Atom.Cores a).length ≤ 1000; omega)
      have hstep : atom_Step ps (Atom.mk (Atom.Mem a) (Atom.Cores a) (Atom.Outs a)) (n : Int) = some (stepA ps a n, 0) := hst
      have hsame : ((Atom.Cores a).all fun c => Core.Halted c) = true → r04_Same (Atom.mk (Atom.Mem a) (Atom.Cores a) (Atom.Outs a)) (stepA ps a n) = some true := fun q => by
        rw [List.all_eq_true] at q
        rw [halted_step hnc (q _ c2)]
        exact r04_Same_refl a (small_of g1 (by omega))
      rw [run_take hin, ← ha, hnth, hpick]
      have hcn : getO (Atom.Cores (stepA ps a n)) (n : Int) = some (coreAt (Atom.Cores (stepA ps a n)) n) := (coreAt_get (by omega)).1
      have hq : Core.Halted (coreAt (Atom.Cores a) n) = true → @decide (coreAt (Atom.Cores a) n = coreAt (Atom.Cores (stepA ps a n)) n) (Ty.dec tCore _ _) = true := fun q => decCore _ _ (by rw [halted_step hnc q])
      unfold l04_AtomReplays_L3
      simp only [hlt, decide_true, if_true, getO_in hi, n1, hap, hstep, Option.bind_some, Bool.not_true, Bool.false_eq_true, if_false, hge, hle, decide_false, hsub, r04_Outs_refl _ (show (Atom.Outs a).length ≤ 100000 by omega), hover, t1, t3, orExit_inl, ht, c1, hcn, w64_succ (show i < 4611686018427387904 by omega)]
      have e1 : (if ((Atom.Cores a).all fun c => Core.Halted c) = true then (r04_Same (Atom.mk (Atom.Mem a) (Atom.Cores a) (Atom.Outs a)) (stepA ps a n)).bind fun v48 => some (!v48) else some false) = some false := by
        by_cases q : ((Atom.Cores a).all fun c => Core.Halted c) = true
        · rw [if_pos q, hsame q]
          rfl
        · rw [if_neg q]
      rw [e1]
      simp only [Option.bind_some, Bool.false_eq_true, if_false]
      have e2 : (if Core.Halted (coreAt (Atom.Cores a) n) = true then some (!(@decide (coreAt (Atom.Cores a) n = coreAt (Atom.Cores (stepA ps a n)) n) (Ty.dec tCore _ _))) else some false) = some false := by
        by_cases q : Core.Halted (coreAt (Atom.Cores a) n) = true
        · rw [if_pos q, hq q]
          rfl
        · rw [if_neg q]
      rw [e2]
      simp only [Option.bind_some, Bool.false_eq_true, if_false]) (by
      unfold l04_AtomReplays_L3
      have e : (nthL ps picks).take picks.length = nthL ps picks := by rw [← hnl, List.take_length]
      simp only [show ¬ (picks.length : Int) < (List.length picks : Int) by omega, decide_false, Bool.false_eq_true, if_false, e])
    rw [List.take_zero, show runS ps a0 [] = a0 from rfl, ho0, show (((0 : Nat) : Int)) = 0 from rfl] at lp
    have hrun := atom_Run_eq hps (words % 64 + 1) (picks := nthL ps picks) (by omega)
    rw [if_pos hn, ← ha0] at hrun
    obtain ⟨g1, g2, g3, g4⟩ := run_ok hps (nthL ps picks) h1 h2
    have hsm : smallA (runS ps a0 (nthL ps picks)) := small_of g1 (by rw [ho0] at g4; simp at g4; omega)
    simp only [if_true, decide_true, Bool.not_true, Bool.false_eq_true, if_false, Option.bind_some, lp, orExit_inl, hrun, Atom.eta, r04_Same_refl _ hsm]

theorem atomReplays_ok (x : Ty.Tup F_l04_AtomReplays.ps) (h : OkL F_l04_AtomReplays.ps x) : F_l04_AtomReplays.sem x = some true :=
  atomReplays_all x.1 x.2.1 x.2.2 (fun p hp y hy => by
    have := ((h.1.2 p hp).2 y hy).2.2.2.2
    exact ⟨this.1, Int.lt_of_le_of_lt this.2 (by decide)⟩)
    ⟨h.2.1.1, Int.lt_of_le_of_lt h.2.1.2 (by decide)⟩
    (fun y hy => by
      have := h.2.2.2 y hy
      exact ⟨this.1, Int.lt_of_le_of_lt this.2 (by decide)⟩)

end Go.Proofs.Ytihchahfnhoapaa
