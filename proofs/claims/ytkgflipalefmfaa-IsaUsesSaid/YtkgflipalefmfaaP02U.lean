/- Layer 2: the law IsaUses on typed data. -/
import Derived.Test.YtkgflipalefmfaaD022
set_option linter.unusedSimpArgs false
set_option linter.unusedVariables false
namespace Go.Proofs.Ytkgflipalefmfaa
open Go.SX

theorem rem_lt {a n : Int} (h0 : 0 ≤ a) (hn : 0 < n) : remO a n = some (a % n) ∧ 0 ≤ a % n ∧ a % n < n := by
  refine ⟨?_, Int.emod_nonneg _ (by omega), Int.emod_lt_of_pos _ hn⟩
  unfold remO
  rw [if_neg (by omega), Int.tmod_eq_emod_of_nonneg h0]

theorem isa_May_eq (op a b c k n : Int) (x y z w : Bool) (hu : isa_Uses op = (x, y, z, w)) (h1 : 1 ≤ op) (h2 : op ≤ 16) (hk : 0 ≤ k ∧ k < 4294967296) (hn : 1 ≤ n ∧ n ≤ 64) :
    isa_May (Ins.mk op a b c k) n = (isa_register a x && (isa_register b y && (isa_register c z && (decide (op = 1) || bif !w then decide (k = 0) else decide (k < n))))) := by
  unfold isa_May
  have e1 : ¬ op < 1 := by omega
  have e2 : ¬ 16 < op := by omega
  have e3 : wu64 k = k := wu64_id (by omega) (by omega)
  have e4 : wu64 n = n := wu64_id (by omega) (by omega)
  have e5 : 0 < n := by omega
  simp only [Ins.Op_mk, Ins.A_mk, Ins.B_mk, Ins.C_mk, Ins.K_mk, hu, e1, e2, e3, e4, e5, decide_true, decide_false, Bool.false_or, Bool.true_and]
  cases isa_register a x <;> cases isa_register b y <;> cases isa_register c z <;> cases w <;> simp <;> rfl

theorem reg_ok {a : Int} (h0 : 0 ≤ a) (h1 : a < 8) : isa_register a true = true := by
  simp [isa_register, h0, h1]
theorem reg_zero : ∀ x, isa_register 0 x = true := by decide
theorem reg_big {a : Int} (h : 8 ≤ a) (x : Bool) : isa_register a x = false := by
  have h1 : ¬ a < 8 := by omega
  have h2 : ¬ a = 0 := by omega
  cases x <;> simp [isa_register, h1, h2]

theorem uses_none {op : Int} (h : op < 1 ∨ 16 < op) : isa_Uses op = (false, false, false, false) := by
  have hu : isa_uses op = 0 := by
    have e : ∀ k : Int, 1 ≤ k → k ≤ 16 → decide (op = k) = false := fun k h1 h2 => decide_eq_false (by omega)
    unfold isa_uses
    simp [e]
  unfold isa_Uses
  rw [hu]
  rfl

theorem isaUses_all (op a b c k many : Int) (ha : 0 ≤ a ∧ a ≤ 255) (hb : 0 ≤ b ∧ b ≤ 255) (hc : 0 ≤ c ∧ c ≤ 255) (hk : 0 ≤ k ∧ k ≤ 4294967295) (hm : 0 ≤ many ∧ many ≤ 255) : l02_IsaUses op a b c k many = some true := by
  unfold l02_IsaUses
  by_cases hr : op < 1 ∨ 16 < op
  · have hc1 : (decide (op < 1) || decide (16 < op)) = true := by
      rcases hr with h | h <;> simp [h]
    have hmay : isa_May (Ins.mk op 0 0 0 0) 5 = false := by
      unfold isa_May
      rcases hr with h | h <;> simp [h]
    simp [l02_awake, hc1, uses_none hr, hmay]
  · have hop : 1 ≤ op ∧ op ≤ 16 := by omega
    have hc1 : (decide (op < 1) || decide (16 < op)) = false := by
      rw [Bool.or_eq_false_iff, decide_eq_false_iff_not, decide_eq_false_iff_not]; omega
    obtain ⟨m1, m2, m3⟩ := rem_lt (a := many) (n := 64) hm.1 (by omega)
    obtain ⟨a1, a2, a3⟩ := rem_lt (a := a) (n := 8) ha.1 (by omega)
    obtain ⟨b1, b2, b3⟩ := rem_lt (a := b) (n := 8) hb.1 (by omega)
    obtain ⟨c1, c2, c3⟩ := rem_lt (a := c) (n := 8) hc.1 (by omega)
    obtain ⟨t1, t2, t3⟩ := rem_lt (a := k) (n := 1000) hk.1 (by omega)
    generalize many % 64 = r at m1 m2 m3
    generalize a % 8 = a' at a1 a2 a3
    generalize b % 8 = b' at b1 b2 b3
    generalize c % 8 = c' at c1 c2 c3
    generalize k % 1000 = t' at t1 t2 t3
    have wr : w64 r = r := w64_id (by omega) (by omega)
    have wn : w64 (r + 1) = r + 1 := w64_id (by omega) (by omega)
    have un : wu32 (r + 1) = r + 1 := wu32_id (by omega) (by omega)
    have wa' : w64 a' = a' := w64_id (by omega) (by omega)
    have wb' : w64 b' = b' := w64_id (by omega) (by omega)
    have wc' : w64 c' = c' := w64_id (by omega) (by omega)
    have wa : w64 a = a := w64_id (by omega) (by omega)
    have wb : w64 b = b := w64_id (by omega) (by omega)
    have wc : w64 c = c := w64_id (by omega) (by omega)
    have wa8 : w64 (8 + a) = 8 + a := w64_id (by omega) (by omega)
    have wb8 : w64 (8 + b) = 8 + b := w64_id (by omega) (by omega)
    have wc8 : w64 (8 + c) = 8 + c := w64_id (by omega) (by omega)
    have wk : wu32 (r + 1 + t') = r + 1 + t' := wu32_id (by omega) (by omega)
    obtain ⟨k1, k2, k3⟩ := rem_lt (a := k) (n := r + 1) hk.1 (by omega)
    generalize k % (r + 1) = k' at k1 k2 k3
    obtain ⟨x, y, z, w, hu⟩ : ∃ x y z w, isa_Uses op = (x, y, z, w) := ⟨_, _, _, _, rfl⟩
    have hn : 1 ≤ r + 1 ∧ r + 1 ≤ 64 := by omega
    have May := fun A B C K hK => isa_May_eq op A B C K (r + 1) x y z w hu hop.1 hop.2 hK hn
    have K0 : (0 : Int) ≤ 0 ∧ (0 : Int) < 4294967296 := by omega
    have K1 : 0 ≤ k' ∧ k' < 4294967296 := by omega
    have K2 : 0 ≤ r + 1 + t' ∧ r + 1 + t' < 4294967296 := by omega
    have g1 : ¬ r + 1 + t' = 0 := by omega
    have g2 : ¬ r + 1 + t' < r + 1 := by omega
    have g3 : 0 < r + 1 := by omega
    have ra := reg_ok a2 a3
    have rb := reg_ok b2 b3
    have rc := reg_ok c2 c3
    have za := fun q => reg_big (a := 8 + a) (by omega) q
    have zb := fun q => reg_big (a := 8 + b) (by omega) q
    have zc := fun q => reg_big (a := 8 + c) (by omega) q
    have M0 := fun A B C => May A B C 0 K0
    have M1 := fun A B C => May A B C k' K1
    have M2 := fun A B C => May A B C _ K2
    simp only [l02_awake, Bool.not_true, Bool.false_eq_true, if_false, hu, hc1, m1, a1, b1, c1, t1, Option.bind_some, wr, wn, un, k1, wa', wb', wc', wa, wb, wc, wa8, wb8, wc8, wk]
    cases x <;> cases y <;> cases z <;> cases w <;>
      simp [M0, M1, M2, ra, rb, rc, za, zb, zc, reg_zero, g1, g2, g3, k3]

theorem isaUses_ok (x : Ty.Tup F_l02_IsaUses.ps) (h : OkL F_l02_IsaUses.ps x) : F_l02_IsaUses.sem x = some true :=
  isaUses_all x.1 x.2.1 x.2.2.1 x.2.2.2.1 x.2.2.2.2.1 x.2.2.2.2.2 h.2.1 h.2.2.1 h.2.2.2.1 h.2.2.2.2.1 h.2.2.2.2.2

end Go.Proofs.Ytkgflipalefmfaa
