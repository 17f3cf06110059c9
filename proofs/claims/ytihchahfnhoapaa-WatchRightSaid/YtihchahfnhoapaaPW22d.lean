/- Layer 22: alike, calm, known, all; the law WatchRight on typed data. -/
import Derived.Test.YtihchahfnhoapaaPW22c
set_option linter.unusedSimpArgs false
set_option linter.unusedVariables false
namespace Go.Proofs.Ytihchahfnhoapaa
open Go.SX

/-! ### Alike -/
def alikeB (p : Proto) (line : Int) : Bool := thereB p line && (List.range (Proto.Wait p).length).all fun a => (List.range a).all fun b => !(hasV p line false a && (hasV p line false b && !decide (valV p a line.toNat = valV p b line.toNat)))
theorem alike1 {p : Proto} (hs : ShortP p) (line : Int) : watch_Alike p line = some (alikeB p line) := by
  unfold watch_Alike alikeB
  rw [there1 hs line, who_is hs line]
  cases ht : thereB p line
  · rfl
  have hmem := who_has hs line
  have hwl0 := whoS_len p line (Proto.Wait p).length
  have hw6 := hs.wait
  unfold thereB at ht
  rw [Bool.and_eq_true] at ht
  have R := rf_of ht.1
  have hl' := within_iff.1 ht.2
  obtain ⟨l, rfl⟩ : ∃ l : Nat, line = (l : Int) := ⟨line.toNat, by omega⟩
  have hll : l < (Proto.Home p).length := by omega
  rw [Int.toNat_natCast]
  obtain ⟨who, hwho⟩ : ∃ who, who = whoS p (l : Int) (Proto.Wait p).length := ⟨_, rfl⟩
  rw [← hwho] at hmem hwl0 ⊢
  have lp := contains_loop (f := watch_Alike_L1 p (l : Int) who (List.length who : Int)) (n := who.length) (fun i => optT (fun w => decide (valV p w.toNat l = valV p (who.headD 0).toNat l)) who[i]?) (fun i hi => by
    have hlt : (i : Int) < (List.length who : Int) := by omega
    obtain ⟨n, e1, e2, _⟩ := (hmem who[i]).1 (List.getElem_mem hi)
    have h0 : 0 < who.length := by omega
    obtain ⟨m, f1, f2, _⟩ := (hmem who[0]).1 (List.getElem_mem h0)
    have hg0 : getO who (0 : Int) = some (m : Int) := by
      have := getO_in (l := who) (i := 0) h0
      rw [f1] at this
      exact this
    have hh : who.headD 0 = (m : Int) := by
      rw [← f1]
      match who, h0 with
      | x :: t, _ => rfl
    obtain ⟨_, _, g1, g2⟩ := st_get R e2 hll
    obtain ⟨_, _, g3, g4⟩ := st_get R f2 hll
    rw [optT_in hi]
    unfold watch_Alike_L1
    simp only [hlt, decide_true, if_true, getO_in hi, Option.bind_some, w64_succ (show i < 4611686018427387904 by omega), e1, g1, g2, hg0, g3, g4, hh, Int.toNat_natCast]
    cases decide (valV p n l = valV p m l) <;> rfl) (by
    unfold watch_Alike_L1
    simp only [show ¬ (List.length who : Int) < (List.length who : Int) by omega, decide_false, Bool.false_eq_true, if_false])
  rw [← all_range] at lp
  simp only [Option.bind_some, Bool.not_true, Bool.false_eq_true, if_false, Bool.true_and]
  have key : (List.range (Proto.Wait p).length).all (fun a => (List.range a).all fun b => !(hasV p (l : Int) false a && (hasV p (l : Int) false b && !decide (valV p a l = valV p b l)))) = true ↔ who.all (fun w => decide (valV p w.toNat l = valV p (who.headD 0).toNat l)) = true := by
    rw [range_all, List.all_eq_true]
    have pair : ∀ a b : Nat, (List.range (Proto.Wait p).length).all (fun a => (List.range a).all fun b => !(hasV p (l : Int) false a && (hasV p (l : Int) false b && !decide (valV p a l = valV p b l)))) = true → a < (Proto.Wait p).length → b < a → hasV p (l : Int) false a = true → hasV p (l : Int) false b = true → valV p a l = valV p b l := fun a b h ha hb h1 h2 => by
      have t := range_all.1 (range_all.1 h a ha) b hb
      rw [h1, h2] at t
      cases hd : decide (valV p a l = valV p b l)
      · rw [hd] at t; cases t
      · exact of_decide_eq_true hd
    constructor
    · intro h w hw
      have h' := range_all.2 h
      obtain ⟨n, rfl, hn, hhn⟩ := (hmem w).1 hw
      have hhead : who.headD 0 ∈ who := by
        match who, hw with
        | x :: t, _ => simp
      obtain ⟨m, hm1, hm, hhm⟩ := (hmem _).1 hhead
      rw [hm1, Int.toNat_natCast, Int.toNat_natCast]
      refine decide_eq_true ?_
      rcases Nat.lt_trichotomy n m with q | q | q
      · exact (pair m n h' hm q hhm hhn).symm
      · rw [q]
      · exact pair n m h' hn q hhn hhm
    · intro h a ha
      rw [range_all]
      intro b hb
      cases h1 : hasV p (l : Int) false a
      · rfl
      cases h2 : hasV p (l : Int) false b
      · rfl
      have t1 := of_decide_eq_true (h _ ((hmem (a : Int)).2 ⟨a, rfl, ha, h1⟩))
      have t2 := of_decide_eq_true (h _ ((hmem (b : Int)).2 ⟨b, rfl, by omega, h2⟩))
      rw [Int.toNat_natCast] at t1 t2
      rw [decide_eq_true (t1.trans t2.symm)]
      rfl
  generalize (List.range (Proto.Wait p).length).all (fun a => (List.range a).all fun b => !(hasV p (l : Int) false a && (hasV p (l : Int) false b && !decide (valV p a l = valV p b l)))) = K at key ⊢
  simp only [lp, Option.bind_some, Bool.not_not]
  congr 1
  rw [Bool.eq_iff_iff]
  exact key.symm
theorem alike2 {p : Proto} (hs : ShortP p) (line : Int) : r22_Alike p line = some (alikeB p line) := by
  unfold r22_Alike alikeB
  rw [there2 hs line]
  cases ht : thereB p line
  · rfl
  have hw6 := hs.wait
  unfold thereB at ht
  rw [Bool.and_eq_true] at ht
  have R := rf_of ht.1
  have hl' := within_iff.1 ht.2
  obtain ⟨l, rfl⟩ : ∃ l : Nat, line = (l : Int) := ⟨line.toNat, by omega⟩
  have hll : l < (Proto.Home p).length := by omega
  rw [Int.toNat_natCast]
  have inner := fun (a : Nat) (ha : a < (Proto.Wait p).length) => loop_check (f := r22_Alike_L1 p (l : Int) (a : Int)) (n := a) (e := (Sum.inl () : Unit ⊕ Int ⊕ Unit ⊕ Bool)) (r := .inr (.inr (.inr false))) (fun j => (j : Int)) (fun b => !(hasV p (l : Int) false a && (hasV p (l : Int) false b && !decide (valV p a l = valV p b l)))) (fun j hj _ => by
    have hlt : (j : Int) < (a : Int) := by omega
    obtain ⟨_, _, g1, g2⟩ := st_get R ha hll
    obtain ⟨_, _, g3, g4⟩ := st_get R (show j < (Proto.Wait p).length by omega) hll
    unfold r22_Alike_L1
    simp only [hlt, decide_true, if_true, Option.bind_some, w64_succ (show j < 4611686018427387904 by omega), has2 hs (l : Int) false a ha, has2 hs (l : Int) false j (show j < (Proto.Wait p).length by omega), g1, g2, g3, g4]
    cases hasV p (l : Int) false a
    · rfl
    · cases hasV p (l : Int) false j
      · rfl
      · simp only [if_true, Option.bind_some, Bool.true_and]
        cases decide (valV p a l = valV p j l) <;> rfl) (fun _ => by
    unfold r22_Alike_L1
    simp only [show ¬ (a : Int) < (a : Int) by omega, decide_false, Bool.false_eq_true, if_false])
  have lp := check_all (f := r22_Alike_L2 p (l : Int)) (n := (Proto.Wait p).length) (g := fun _ => some true) (fun i => (i : Int)) (fun a => (List.range a).all fun b => !(hasV p (l : Int) false a && (hasV p (l : Int) false b && !decide (valV p a l = valV p b l)))) (fun i hi _ => by
    have hlt : (i : Int) < (List.length (Proto.Wait p) : Int) := by omega
    have il := inner i hi
    rw [show (((0 : Nat) : Int)) = 0 from rfl] at il
    unfold r22_Alike_L2
    simp only [hlt, decide_true, if_true, il, w64_succ (show i < 4611686018427387904 by omega)]
    cases (List.range i).all fun b => !(hasV p (l : Int) false i && (hasV p (l : Int) false b && !decide (valV p i l = valV p b l))) <;> rfl) (fun _ => by
    unfold r22_Alike_L2
    simp only [show ¬ (List.length (Proto.Wait p) : Int) < (List.length (Proto.Wait p) : Int) by omega, decide_false, Bool.false_eq_true, if_false])
  rw [show (((0 : Nat) : Int)) = 0 from rfl] at lp
  simp only [Option.bind_some, Bool.not_true, Bool.false_eq_true, if_false, Bool.true_and, lp]
  cases (List.range (Proto.Wait p).length).all fun a => (List.range a).all fun b => !(hasV p (l : Int) false a && (hasV p (l : Int) false b && !decide (valV p a l = valV p b l))) <;> rfl

/-! ### Calm -/
def calmB (p : Proto) : Bool := rightB p && (decide ((Pool.Frames (Proto.Pool p)).length = 0) && ((Proto.Wait p).all (fun w => !decide (0 < Wait.Line w)) && (Proto.Busy p).all (fun b => !decide (0 < b))))
theorem calm1 {p : Proto} (hs : ShortP p) : watch_Calm p = some (calmB p) := by
  unfold watch_Calm calmB
  rw [proto_Right_eq hs]
  cases hr : rightB p
  · rfl
  have R := rf_of hr
  have h4 := R.w4
  have h16 := R.h16
  have hbl := R.bl
  have l2 := contains_loop (f := watch_Calm_L2 (Proto.Wait p) (List.length (Proto.Wait p) : Int)) (n := (Proto.Wait p).length) (fun i => optT (fun w => !decide (0 < Wait.Line w)) (Proto.Wait p)[i]?) (fun i hi => by
    have hlt : (i : Int) < (List.length (Proto.Wait p) : Int) := by omega
    rw [optT_in hi]
    unfold watch_Calm_L2 watch_Calm_1
    simp only [hlt, decide_true, if_true, getO_in hi, Option.bind_some, w64_succ (show i < 4611686018427387904 by omega)]
    cases decide (0 < Wait.Line (Proto.Wait p)[i]) <;> rfl) (by
    unfold watch_Calm_L2
    simp only [show ¬ (List.length (Proto.Wait p) : Int) < (List.length (Proto.Wait p) : Int) by omega, decide_false, Bool.false_eq_true, if_false])
  have l1 := contains_loop (f := watch_Calm_L1 (Proto.Busy p) (List.length (Proto.Busy p) : Int)) (n := (Proto.Busy p).length) (fun i => optT (fun b => !decide (0 < b)) (Proto.Busy p)[i]?) (fun i hi => by
    have hlt : (i : Int) < (List.length (Proto.Busy p) : Int) := by omega
    rw [optT_in hi]
    unfold watch_Calm_L1 watch_Calm_2
    simp only [hlt, decide_true, if_true, getO_in hi, Option.bind_some, w64_succ (show i < 4611686018427387904 by omega)]
    cases decide (0 < (Proto.Busy p)[i]) <;> rfl) (by
    unfold watch_Calm_L1
    simp only [show ¬ (List.length (Proto.Busy p) : Int) < (List.length (Proto.Busy p) : Int) by omega, decide_false, Bool.false_eq_true, if_false])
  rw [← all_range] at l1 l2
  by_cases hf : (Pool.Frames (Proto.Pool p)).length = 0
  · have hf' : ¬ (0 : Int) < (List.length (Pool.Frames (Proto.Pool p)) : Int) := by omega
    simp only [Option.bind_some, Bool.not_true, Bool.false_eq_true, if_false, hf', decide_false, hf, decide_true, Bool.true_and]
    simp only [l1, l2, Option.bind_some, Bool.not_not]
    cases (Proto.Wait p).all fun w => !decide (0 < Wait.Line w)
    · rfl
    · cases (Proto.Busy p).all fun b => !decide (0 < b) <;> rfl
  · have hf' : (0 : Int) < (List.length (Pool.Frames (Proto.Pool p)) : Int) := by omega
    simp only [Option.bind_some, Bool.not_true, Bool.false_eq_true, if_false, hf', hf, decide_true, decide_false, if_true, Bool.false_and, Bool.and_false]

def sumI (f : Nat → Int) : Nat → Int | 0 => 0 | i + 1 => sumI f i + f i
theorem sumI_le (f : Nat → Int) (m : Int) : ∀ n, (∀ i, i < n → 0 ≤ f i ∧ f i ≤ m) → 0 ≤ sumI f n ∧ sumI f n ≤ n * m
  | 0, _ => by simp [sumI]
  | n + 1, h => by
    obtain ⟨h1, h2⟩ := sumI_le f m n fun i hi => h i (by omega)
    obtain ⟨h3, h4⟩ := h n (by omega)
    simp only [sumI]
    rw [Int.natCast_add, Int.add_mul]
    omega
theorem sumI_zero (f : Nat → Int) : ∀ n, (∀ i, i < n → 0 ≤ f i) → (sumI f n = 0 ↔ ∀ i, i < n → f i = 0)
  | 0, _ => by simp [sumI]
  | n + 1, h => by
    have ih := sumI_zero f n fun i hi => h i (by omega)
    have h3 := h n (by omega)
    have h1 : 0 ≤ sumI f n := by
      have : ∀ k, k ≤ n → 0 ≤ sumI f k := fun k => by
        induction k with
        | zero => intro _; exact Int.le_refl 0
        | succ k ihk =>
          intro hk
          have := ihk (by omega)
          have := h k (by omega)
          simp only [sumI]
          omega
      exact this n (Nat.le_refl n)
    simp only [sumI]
    constructor
    · intro q i hi
      by_cases he : i = n
      · rw [he]; omega
      · exact ih.1 (by omega) i (by omega)
    · intro q
      have := ih.2 fun i hi => q i (by omega)
      have := q n (by omega)
      omega
theorem calm2 {p : Proto} (hs : ShortP p) : r22_Calm p = some (calmB p) := by
  unfold r22_Calm calmB
  rw [r10_Right_eq hs]
  cases hr : rightB p
  · rfl
  have R := rf_of hr
  have h4 := R.w4
  have h16 := R.h16
  have hbl := R.bl
  have hfr := hs.frames
  obtain ⟨fl, hfl⟩ : ∃ f : Nat → Int, f = fun i => ((Proto.Wait p)[i]?.map Wait.Line).getD 0 := ⟨_, rfl⟩
  obtain ⟨fb, hfb⟩ : ∃ f : Nat → Int, f = fun i => ((Proto.Busy p)[i]?).getD 0 := ⟨_, rfl⟩
  have fl_in : ∀ i (hi : i < (Proto.Wait p).length), fl i = Wait.Line (Proto.Wait p)[i] := fun i hi => by rw [hfl]; dsimp only; rw [List.getElem?_eq_getElem hi]; rfl
  have fb_in : ∀ i (hi : i < (Proto.Busy p).length), fb i = (Proto.Busy p)[i] := fun i hi => by rw [hfb]; dsimp only; rw [List.getElem?_eq_getElem hi]; rfl
  have bl : ∀ i, i < (Proto.Wait p).length → 0 ≤ fl i ∧ fl i ≤ 16 := fun i hi => by
    rw [fl_in i hi]
    have := R.line i hi
    omega
  have bb : ∀ i, i < (Proto.Busy p).length → 0 ≤ fb i ∧ fb i ≤ 4 := fun i hi => by
    rw [fb_in i hi]
    have := R.busy i hi
    omega
  have l2 := loop_good (f := r22_Calm_L2 p) (n := (Proto.Wait p).length) (e := (List.length (Pool.Frames (Proto.Pool p)) : Int) + sumI fl (Proto.Wait p).length) (fun i => ((List.length (Pool.Frames (Proto.Pool p)) : Int) + sumI fl i, (i : Int))) (fun i hi => by
    have hlt : (i : Int) < (List.length (Proto.Wait p) : Int) := by omega
    have hb := sumI_le fl 16 i fun j hj => bl j (by omega)
    have hbi := bl i hi
    have hw : w64 ((List.length (Pool.Frames (Proto.Pool p)) : Int) + sumI fl i + Wait.Line (Proto.Wait p)[i]) = (List.length (Pool.Frames (Proto.Pool p)) : Int) + sumI fl (i + 1) := by
      rw [← fl_in i hi]
      simp only [sumI]
      rw [w64_id (by omega) (by omega)]
      omega
    unfold r22_Calm_L2
    simp only [hlt, decide_true, if_true, getO_in hi, Option.bind_some, hw, w64_succ (show i < 4611686018427387904 by omega)]) (by
    unfold r22_Calm_L2
    simp only [show ¬ (List.length (Proto.Wait p) : Int) < (List.length (Proto.Wait p) : Int) by omega, decide_false, Bool.false_eq_true, if_false])
  obtain ⟨S, hS⟩ : ∃ S, S = (List.length (Pool.Frames (Proto.Pool p)) : Int) + sumI fl (Proto.Wait p).length := ⟨_, rfl⟩
  have hSb := sumI_le fl 16 (Proto.Wait p).length bl
  rw [← hS] at l2
  have l1 := loop_good (f := r22_Calm_L1 p) (n := (Proto.Busy p).length) (e := S + sumI fb (Proto.Busy p).length) (fun i => (S + sumI fb i, (i : Int))) (fun i hi => by
    have hlt : (i : Int) < (List.length (Proto.Busy p) : Int) := by omega
    have hb := sumI_le fb 4 i fun j hj => bb j (by omega)
    have hbi := bb i hi
    have hw : w64 (S + sumI fb i + (Proto.Busy p)[i]) = S + sumI fb (i + 1) := by
      rw [← fb_in i hi]
      simp only [sumI]
      rw [w64_id (by omega) (by omega)]
      omega
    unfold r22_Calm_L1
    simp only [hlt, decide_true, if_true, getO_in hi, Option.bind_some, hw, w64_succ (show i < 4611686018427387904 by omega)]) (by
    unfold r22_Calm_L1
    simp only [show ¬ (List.length (Proto.Busy p) : Int) < (List.length (Proto.Busy p) : Int) by omega, decide_false, Bool.false_eq_true, if_false])
  have q0 : sumI fl 0 = 0 := rfl
  have q1 : sumI fb 0 = 0 := rfl
  rw [q0, Int.add_zero, show (((0 : Nat) : Int)) = 0 from rfl] at l2
  rw [q1, Int.add_zero, show (((0 : Nat) : Int)) = 0 from rfl] at l1
  simp only [Option.bind_some, Bool.not_true, Bool.false_eq_true, if_false, l2, l1, Bool.true_and]
  congr 1
  have z1 := sumI_zero fl (Proto.Wait p).length fun i hi => (bl i hi).1
  have z2 := sumI_zero fb (Proto.Busy p).length fun i hi => (bb i hi).1
  have hBb := sumI_le fb 4 (Proto.Busy p).length bb
  rw [Bool.eq_iff_iff, decide_eq_true_eq, Bool.and_eq_true, Bool.and_eq_true, decide_eq_true_eq, List.all_eq_true, List.all_eq_true]
  constructor
  · intro h
    have s1 : sumI fl (Proto.Wait p).length = 0 := by omega
    have s2 : sumI fb (Proto.Busy p).length = 0 := by omega
    refine ⟨by omega, ?_, ?_⟩
    · intro w hw
      obtain ⟨i, hi, rfl⟩ := List.getElem_of_mem hw
      have := z1.1 s1 i hi
      rw [fl_in i hi] at this
      rw [this]
      rfl
    · intro w hw
      obtain ⟨i, hi, rfl⟩ := List.getElem_of_mem hw
      have := z2.1 s2 i hi
      rw [fb_in i hi] at this
      rw [this]
      rfl
  · rintro ⟨h1, h2, h3⟩
    have s1 := z1.2 fun i hi => by
      have t := h2 _ (List.getElem_mem hi)
      rw [Bool.not_eq_true', decide_eq_false_iff_not, ← fl_in i hi] at t
      have := (bl i hi).1
      omega
    have s2 := z2.2 fun i hi => by
      have t := h3 _ (List.getElem_mem hi)
      rw [Bool.not_eq_true', decide_eq_false_iff_not, ← fb_in i hi] at t
      have := (bb i hi).1
      omega
    omega

end Go.Proofs.Ytihchahfnhoapaa
