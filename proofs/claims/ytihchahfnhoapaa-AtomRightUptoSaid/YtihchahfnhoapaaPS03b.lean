/- Layer 3: what a core wants; the law CoreAnswers on typed data. -/
import Derived.Test.YtihchahfnhoapaaPS03
set_option linter.unusedSimpArgs false
set_option linter.unusedVariables false
namespace Go.Proofs.Ytihchahfnhoapaa
open Go.SX

def RegsOk (c : Core) : Prop := (Core.Regs c).length = 8 ∧ ∀ r ∈ Core.Regs c, 0 ≤ r ∧ r < 4294967296

theorem regN_in {c : Core} (h : RegsOk c) {i : Int} (hi : 0 ≤ i ∧ i < 8) : 0 ≤ regN c i ∧ regN c i < 4294967296 := by
  have hl : i.toNat < (Core.Regs c).length := by rw [h.1]; omega
  unfold regN
  rw [List.getElem?_eq_getElem hl]
  exact h.2 _ (List.getElem_mem hl)

def placeN (n words : Int) : Int := if words < 1 then 0 else n % words

theorem word_Place_eq {n words : Int} (hn : 0 ≤ n ∧ n < 4294967296) (hw : words ≤ 9223372036854775807) : word_Place n words = some (placeN n words) := by
  unfold word_Place placeN
  by_cases h : words < 1
  · simp [h]
  · have e1 : wu64 n = n := wu64_id (by omega) (by omega)
    have e2 : wu64 words = words := wu64_id (by omega) (by omega)
    obtain ⟨r1, r2, r3⟩ := rem_lt (a := n) (n := words) hn.1 (by omega)
    have e3 : w64 (n % words) = n % words := w64_id (by omega) (by omega)
    simp [h, e1, e2, r1, e3]

/-- What a core wants. -/
def wantS (x : Ins) (c : Core) (words : Int) : Want :=
  if Ins.Op x = 16 then Want.mk 5 0 0 0
  else if Ins.Op x = 9 then Want.mk 1 (placeN (regN c (Ins.B x)) words) 0 0
  else if Ins.Op x = 10 then Want.mk 2 (placeN (regN c (Ins.B x)) words) (regN c (Ins.A x)) 0
  else if Ins.Op x = 11 then Want.mk 3 (placeN (regN c (Ins.B x)) words) (regN c (Ins.C x)) (regN c (Ins.A x))
  else if Ins.Op x = 15 then Want.mk 4 0 (regN c (Ins.A x)) 0
  else Want.mk 0 0 0 0

theorem core_Wants_eq {p : List Ins} {c : Core} (hr : rightC p c = true) (hh : Core.Halted c = false) (hc : RegsOk c) {k : Nat} (hk : Core.PC c = (k : Int)) {x : Ins} (hx : p[k]? = some x) {words : Int} (hw : words ≤ 9223372036854775807) :
    core_Wants p c words = some (wantS x c words) := by
  obtain ⟨k', x', f1, f2, f3, f4, f5⟩ := rightC_facts hr
  have : k' = k := by omega
  subst this
  rw [hx] at f4
  cases f4
  obtain ⟨m1, m2, m3, m4⟩ := may_facts f5
  obtain ⟨a1, a2, a3⟩ := reg_get hc.1 m2
  obtain ⟨b1, b2, b3⟩ := reg_get hc.1 m3
  obtain ⟨c1, c2, c3⟩ := reg_get hc.1 m4
  have hg : getO p (Core.PC c) = some x := by rw [hk, getO_nat, hx]
  have hp := word_Place_eq (regN_in hc m3) hw
  unfold core_Wants wantS
  rw [core_Right_eq p c (by omega), hr]
  simp only [hh, Option.bind_some, Bool.not_true, Bool.false_eq_true, if_false, hg, a1, a2, b1, b2, c1, c2, hp]
  by_cases o1 : Ins.Op x = 16
  · simp [o1]
  · by_cases o2 : Ins.Op x = 9
    · simp [o2]
    · by_cases o3 : Ins.Op x = 10
      · simp [o3]
      · by_cases o4 : Ins.Op x = 11
        · simp [o4]
        · by_cases o5 : Ins.Op x = 15 <;> simp [o1, o2, o3, o4, o5]

theorem core_Wants_rest {p : List Ins} {c : Core} (hp : p.length ≤ 1000) (h : rightC p c = false ∨ Core.Halted c = true) (words : Int) : core_Wants p c words = some (Want.mk 5 0 0 0) := by
  unfold core_Wants
  rw [core_Right_eq p c hp]
  rcases h with h | h
  · simp [h]
  · cases rightC p c <;> simp [h]

theorem doneS_same {x : Ins} {c : Core} (h : ¬ (Ins.Op x = 9 ∨ Ins.Op x = 11)) (a b : Int) : doneS x c a = doneS x c b := by
  unfold doneS
  rw [if_neg h, if_neg h]

end Go.Proofs.Ytihchahfnhoapaa
