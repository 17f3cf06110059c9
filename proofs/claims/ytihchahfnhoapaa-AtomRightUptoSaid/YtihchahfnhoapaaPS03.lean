/- Layer 3: what the functions tell, in plain words. -/
import Derived.Test.YtihchahfnhoapaaD141
set_option linter.unusedSimpArgs false
set_option linter.unusedVariables false
namespace Go.Proofs.Ytihchahfnhoapaa
open Go.SX

theorem loop_all_t {R : Type} {f : Int → Option (Int ⊕ Unit ⊕ R)} {n : Nat}
    (hs : ∀ i : Nat, i < n → f (i : Int) = some (.inl ((i : Int) + 1))) (he : f (n : Int) = some (.inr (.inl ()))) : loopD f 0 = some (.inl ()) := by
  have h := loop_to (f := f) (fun i => (i : Int)) (n := 0) (m := n) (Nat.zero_le _) (fun i _ hi => by simpa using hs i hi)
  have h0 : ((0 : Nat) : Int) = 0 := rfl
  rw [h0] at h
  rw [h, loop_out he]
theorem loop_all_f {R : Type} {f : Int → Option (Int ⊕ Unit ⊕ R)} {k : Nat} {r : R}
    (hs : ∀ i : Nat, i < k → f (i : Int) = some (.inl ((i : Int) + 1))) (he : f (k : Int) = some (.inr (.inr r))) : loopD f 0 = some (.inr r) := by
  have h := loop_to (f := f) (fun i => (i : Int)) (n := 0) (m := k) (Nat.zero_le _) (fun i _ hi => by simpa using hs i hi)
  have h0 : ((0 : Nat) : Int) = 0 := rfl
  rw [h0] at h
  rw [h, loop_out he]

theorem rem_lt {a n : Int} (h0 : 0 ≤ a) (hn : 0 < n) : remO a n = some (a % n) ∧ 0 ≤ a % n ∧ a % n < n := by
  refine ⟨?_, Int.emod_nonneg _ (by omega), Int.emod_lt_of_pos _ hn⟩
  unfold remO
  rw [if_neg (by omega), Int.tmod_eq_emod_of_nonneg h0]

/-! ### Programs -/
def endsB (x : Ins) : Bool := decide (Ins.Op x = 16) || decide (Ins.Op x = 13)
def rightP (p : List Ins) : Bool :=
  decide (1 ≤ p.length ∧ p.length ≤ 64) && ((match p[p.length - 1]? with | some x => endsB x | none => false) && p.all (fun x => isa_May x (p.length : Int)))

theorem isa_Right_eq (p : List Ins) (hp : p.length ≤ 1000) : isa_Right p = some (rightP p) := by
  unfold isa_Right rightP
  by_cases h : 1 ≤ p.length ∧ p.length ≤ 64
  · have hc : (decide ((List.length p : Int) < (1 : Int)) || decide ((64 : Int) < (List.length p : Int))) = false := by
      rw [Bool.or_eq_false_iff, decide_eq_false_iff_not, decide_eq_false_iff_not]; omega
    have hw : w64 ((p.length : Int) - 1) = ((p.length - 1 : Nat) : Int) := by rw [w64_id (by omega) (by omega)]; omega
    obtain ⟨x, hx⟩ : ∃ x, p[p.length - 1]? = some x := ⟨_, List.getElem?_eq_getElem (by omega)⟩
    simp only [hc, Bool.false_eq_true, if_false, hw, getO_nat, hx, Option.bind_some, decide_eq_true h, Bool.true_and]
    cases hends : endsB x with
    | false =>
      unfold endsB at hends
      simp [hends]
    | true =>
      unfold endsB at hends
      simp only [hends, if_true, Bool.true_and]
      have step : ∀ i : Nat, (hi : i < p.length) → isa_May p[i] (p.length : Int) = true → isa_Right_L1 p (p.length : Int) (i : Int) = some (.inl ((i : Int) + 1)) := fun i hi hm => by
        have hlt : (i : Int) < (p.length : Int) := by omega
        have hw : w64 ((i : Int) + 1) = (i : Int) + 1 := w64_id (by omega) (by omega)
        unfold isa_Right_L1
        simp only [hlt, decide_true, if_true, getO_nat, List.getElem?_eq_getElem hi, Option.bind_some, hm, Bool.not_true, Bool.false_eq_true, if_false, hw]
      rcases first_of (fun i => match p[i]? with | some y => isa_May y (p.length : Int) | none => true) p.length with hq | ⟨k, hk, hq, hb⟩
      · have h1 := loop_all_t (f := isa_Right_L1 p (p.length : Int)) (n := p.length) (fun i hi => step i hi (by
          have := hq i hi
          simpa only [List.getElem?_eq_getElem hi] using this)) (by
          unfold isa_Right_L1
          simp)
        have h2 : p.all (fun x => isa_May x (p.length : Int)) = true := by
          rw [List.all_eq_true]
          intro y hy
          obtain ⟨i, hi, rfl⟩ := List.getElem_of_mem hy
          have := hq i hi
          simpa only [List.getElem?_eq_getElem hi] using this
        simp [h1, h2]
      · have h1 := loop_all_f (f := isa_Right_L1 p (p.length : Int)) (k := k) (r := (k : Int)) (fun i hi => step i (by omega) (by
          have := hb i hi
          simpa only [List.getElem?_eq_getElem (show i < p.length by omega)] using this)) (by
          have hlt : (k : Int) < (p.length : Int) := by omega
          simp only [List.getElem?_eq_getElem hk] at hq
          unfold isa_Right_L1
          simp only [hlt, decide_true, if_true, getO_nat, List.getElem?_eq_getElem hk, Option.bind_some, hq, Bool.not_false])
        have h2 : p.all (fun x => isa_May x (p.length : Int)) = false := by
          rw [List.all_eq_false]
          simp only [List.getElem?_eq_getElem hk] at hq
          exact ⟨p[k], List.getElem_mem hk, by rw [hq]; simp⟩
        have h3 : (0 : Int) ≤ (k : Int) := by omega
        simp [h1, h2, h3]
  · have hc : (decide ((List.length p : Int) < (1 : Int)) || decide ((64 : Int) < (List.length p : Int))) = true := by
      rw [Bool.or_eq_true, decide_eq_true_eq, decide_eq_true_eq]; omega
    simp only [hc, if_true, decide_eq_false h, Bool.false_and]

theorem register_in {a : Int} {u : Bool} (h : isa_register a u = true) : 0 ≤ a ∧ a < 8 := by
  cases u <;> simp [isa_register] at h <;> omega

theorem may_facts {x : Ins} {n : Int} (h : isa_May x n = true) : (1 ≤ Ins.Op x ∧ Ins.Op x ≤ 16) ∧ (0 ≤ Ins.A x ∧ Ins.A x < 8) ∧ (0 ≤ Ins.B x ∧ Ins.B x < 8) ∧ (0 ≤ Ins.C x ∧ Ins.C x < 8) := by
  unfold isa_May at h
  generalize isa_Uses (Ins.Op x) = u at h
  obtain ⟨u1, u2, u3, u4⟩ := u
  simp only at h
  by_cases e1 : Ins.Op x < 1
  · simp [e1] at h
  · by_cases e2 : 16 < Ins.Op x
    · simp [e2] at h
    · cases h3 : isa_register (Ins.A x) u1 with
      | false => simp [h3] at h
      | true =>
        cases h4 : isa_register (Ins.B x) u2 with
        | false => simp [h4] at h
        | true =>
          cases h5 : isa_register (Ins.C x) u3 with
          | false => simp [h5] at h
          | true => exact ⟨by omega, register_in h3, register_in h4, register_in h5⟩

theorem may_goal {x : Ins} {n : Int} (h : isa_May x n = true) (hk : 0 ≤ Ins.K x ∧ Ins.K x < 4294967296) (hn : 0 ≤ n ∧ n ≤ 1000) (hop : Ins.Op x = 13 ∨ Ins.Op x = 14) : Ins.K x < n := by
  have e3 : wu64 (Ins.K x) = Ins.K x := wu64_id (by omega) (by omega)
  have e4 : wu64 n = n := wu64_id (by omega) (by omega)
  have hu : (isa_Uses (Ins.Op x)).2.2.2 = true := by
    rcases hop with e | e <;> rw [e] <;> rfl
  have hne : ¬ Ins.Op x = 1 := by omega
  unfold isa_May at h
  simp only [hu, hne, e3, e4, decide_false, Bool.false_or, Bool.not_true, cond_false] at h
  revert h
  cases (decide (Ins.Op x < 1) || (decide (16 < Ins.Op x) || (!isa_register (Ins.A x) (isa_Uses (Ins.Op x)).1 || (!isa_register (Ins.B x) (isa_Uses (Ins.Op x)).2.1 || !isa_register (Ins.C x) (isa_Uses (Ins.Op x)).2.2.1)))) <;> simp

/-! ### Cores -/
def rightC (p : List Ins) (c : Core) : Bool := rightP p && (decide (0 ≤ Core.PC c) && decide (Core.PC c < (p.length : Int)))

theorem core_Right_eq (p : List Ins) (c : Core) (hp : p.length ≤ 1000) : core_Right p c = some (rightC p c) := by
  unfold core_Right rightC
  rw [isa_Right_eq p hp]
  cases rightP p <;> by_cases h : 0 ≤ Core.PC c <;> simp [h]

/-- What is at a right core's place. -/
theorem rightC_facts {p : List Ins} {c : Core} (h : rightC p c = true) : ∃ (k : Nat) (x : Ins), Core.PC c = (k : Int) ∧ k < p.length ∧ p.length ≤ 64 ∧ p[k]? = some x ∧ isa_May x (p.length : Int) = true := by
  unfold rightC rightP at h
  simp only [Bool.and_eq_true, decide_eq_true_eq] at h
  obtain ⟨⟨h1, _, h2⟩, h3, h4⟩ := h
  obtain ⟨k, hk⟩ : ∃ k : Nat, Core.PC c = (k : Int) := ⟨(Core.PC c).toNat, by omega⟩
  have hkl : k < p.length := by omega
  exact ⟨k, p[k], hk, hkl, h1.2, List.getElem?_eq_getElem hkl, List.all_eq_true.1 h2 _ (List.getElem_mem hkl)⟩

def regN (c : Core) (i : Int) : Int := (Core.Regs c)[i.toNat]?.getD 0
def putN (c : Core) (i v : Int) : List Int := (Core.Regs c).set i.toNat v

theorem reg_get {c : Core} (hc : (Core.Regs c).length = 8) {i : Int} (h : 0 ≤ i ∧ i < 8) : idxO 8 i = some i ∧ getO (Core.Regs c) i = some (regN c i) ∧ ∀ v, setO (Core.Regs c) i v = some (putN c i v) := by
  refine ⟨idxO_lt h.1 h.2, ?_, fun v => ?_⟩
  · have hc' : i < ((Core.Regs c).length : Int) := by omega
    rw [getO_lt h.1 hc', regN, List.getElem?_eq_getElem (by omega)]
    rfl
  · exact setO_lt h.1 (by omega)

/-- A core goes on. -/
def doneS (x : Ins) (c : Core) (was : Int) : Core :=
  if Ins.Op x = 1 then Core.mk (putN c (Ins.A x) (Ins.K x)) (Core.PC c + 1) (Core.Halted c)
  else if Ins.Op x = 9 ∨ Ins.Op x = 11 then Core.mk (putN c (Ins.A x) was) (Core.PC c + 1) (Core.Halted c)
  else if Ins.Op x = 13 then Core.mk (Core.Regs c) (Ins.K x) (Core.Halted c)
  else if Ins.Op x = 14 then Core.mk (Core.Regs c) (if regN c (Ins.A x) = 0 then Ins.K x else Core.PC c + 1) (Core.Halted c)
  else if Ins.Op x = 16 then Core.mk (Core.Regs c) (Core.PC c) true
  else Core.mk (if (word_Do (Ins.Op x) (regN c (Ins.B x)) (regN c (Ins.C x))).2 = true then putN c (Ins.A x) (word_Do (Ins.Op x) (regN c (Ins.B x)) (regN c (Ins.C x))).1 else Core.Regs c) (Core.PC c + 1) (Core.Halted c)

theorem core_Done_eq {p : List Ins} {c : Core} (hr : rightC p c = true) (hh : Core.Halted c = false) (hc : (Core.Regs c).length = 8) {k : Nat} (hk : Core.PC c = (k : Int)) {x : Ins} (hx : p[k]? = some x) (hK : 0 ≤ Ins.K x ∧ Ins.K x < 4294967296) (was : Int) :
    core_Done p c was = some (doneS x c was) := by
  obtain ⟨k', x', f1, f2, f3, f4, f5⟩ := rightC_facts hr
  have : k' = k := by omega
  subst this
  rw [hx] at f4
  cases f4
  obtain ⟨m1, m2, m3, m4⟩ := may_facts f5
  obtain ⟨a1, a2, a3⟩ := reg_get hc m2
  obtain ⟨b1, b2, b3⟩ := reg_get hc m3
  obtain ⟨c1, c2, c3⟩ := reg_get hc m4
  have hw : w64 (Core.PC c + 1) = Core.PC c + 1 := w64_id (by omega) (by omega)
  have hwk : w64 (Ins.K x) = Ins.K x := w64_id (by omega) (by omega)
  have hg : getO p (Core.PC c) = some x := by rw [hk, getO_nat, hx]
  unfold core_Done doneS
  rw [core_Right_eq p c (by omega), hr]
  simp only [hh, Option.bind_some, Bool.not_true, Bool.false_eq_true, if_false, hg, hw, hwk, a1, a2, a3, b1, b2, b3, c1, c2, c3]
  by_cases o1 : Ins.Op x = 1
  · simp [o1, hh]
  · by_cases o2 : Ins.Op x = 9 ∨ Ins.Op x = 11
    · have : (bif decide (Ins.Op x = 9) then decide (Ins.Op x = 9) else decide (Ins.Op x = 11)) = true := by
        rcases o2 with e | e <;> simp [e]
      simp [o1, o2, this, hh]
    · have : (bif decide (Ins.Op x = 9) then decide (Ins.Op x = 9) else decide (Ins.Op x = 11)) = false := by
        have e1 : ¬ Ins.Op x = 9 := fun e => o2 (.inl e)
        have e2 : ¬ Ins.Op x = 11 := fun e => o2 (.inr e)
        simp [e1, e2]
      by_cases o3 : Ins.Op x = 13
      · simp [o3, hh]
      · by_cases o4 : Ins.Op x = 14
        · by_cases hz : regN c (Ins.A x) = 0 <;> simp [o4, hz, hh]
        · by_cases o5 : Ins.Op x = 16
          · simp [o5]
          · cases hd : (word_Do (Ins.Op x) (regN c (Ins.B x)) (regN c (Ins.C x))).2 <;> simp [o1, o2, o3, o4, o5, this, hd, hh]

theorem core_Done_same {p : List Ins} {c : Core} (hp : p.length ≤ 1000) (h : rightC p c = false ∨ Core.Halted c = true) (was : Int) : core_Done p c was = some c := by
  unfold core_Done
  rw [core_Right_eq p c hp]
  rcases h with h | h
  · simp [h]
  · cases rightC p c <;> simp [h]

end Go.Proofs.Ytihchahfnhoapaa
