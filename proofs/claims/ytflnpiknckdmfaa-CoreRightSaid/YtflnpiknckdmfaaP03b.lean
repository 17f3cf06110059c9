/- Layer 3: what a core wants; the law CoreAnswers on typed data. -/
import Derived.Test.YtflnpiknckdmfaaP03
import Derived.Test.YtflnpiknckdmfaaD034
set_option linter.unusedSimpArgs false
set_option linter.unusedVariables false
namespace Go.Proofs.Ytflnpiknckdmfaa
open Go.SX

def RegsOk (c : Core) : Prop := (Core.Regs c).length = 8 ∧ ∀ r ∈ Core.Regs c, 0 ≤ r ∧ r < 4294967296

theorem regN_in {c : Core} (h : RegsOk c) {i : Int} (hi : 0 ≤ i ∧ i < 8) : 0 ≤ regN c i ∧ regN c i < 4294967296 := by
  have hl : i.toNat < (Core.Regs c).length := by rw [h.1]; omega
  unfold regN
  rw [List.getElem?_eq_getElem hl]
  exact h.2 _ (List.getElem_mem hl)

def placeN (n words : Int) : Int := if words < 1 then 0 else n % words

theorem word_Place_eq {n words : Int} (hn : 0 ≤ n ∧ n < 4294967296) (hw : words ≤ 9223372036854775807) : word_Place n words = some (placeN n words) := by
  unfold word_Place placeN
  by_cases h : words < 1
  · simp [h]
  · have e1 : wu64 n = n := wu64_id (by omega) (by omega)
    have e2 : wu64 words = words := wu64_id (by omega) (by omega)
    obtain ⟨r1, r2, r3⟩ := rem_lt (a := n) (n := words) hn.1 (by omega)
    have e3 : w64 (n % words) = n % words := w64_id (by omega) (by omega)
    simp [h, e1, e2, r1, e3]

/-- What a core wants. -/
def wantS (x : Ins) (c : Core) (words : Int) : Want :=
  if Ins.Op x = 16 then Want.mk 5 0 0 0
  else if Ins.Op x = 9 then Want.mk 1 (placeN (regN c (Ins.B x)) words) 0 0
  else if Ins.Op x = 10 then Want.mk 2 (placeN (regN c (Ins.B x)) words) (regN c (Ins.A x)) 0
  else if Ins.Op x = 11 then Want.mk 3 (placeN (regN c (Ins.B x)) words) (regN c (Ins.C x)) (regN c (Ins.A x))
  else if Ins.Op x = 15 then Want.mk 4 0 (regN c (Ins.A x)) 0
  else Want.mk 0 0 0 0

theorem core_Wants_eq {p : List Ins} {c : Core} (hr : rightC p c = true) (hh : Core.Halted c = false) (hc : RegsOk c) {k : Nat} (hk : Core.PC c = (k : Int)) {x : Ins} (hx : p[k]? = some x) {words : Int} (hw : words ≤ 9223372036854775807) :
    core_Wants p c words = some (wantS x c words) := by
  obtain ⟨k', x', f1, f2, f3, f4, f5⟩ := rightC_facts hr
  have : k' = k := by omega
  subst this
  rw [hx] at f4
  cases f4
  obtain ⟨m1, m2, m3, m4⟩ := may_facts f5
  obtain ⟨a1, a2, a3⟩ := reg_get hc.1 m2
  obtain ⟨b1, b2, b3⟩ := reg_get hc.1 m3
  obtain ⟨c1, c2, c3⟩ := reg_get hc.1 m4
  have hg : getO p (Core.PC c) = some x := by rw [hk, getO_nat, hx]
  have hp := word_Place_eq (regN_in hc m3) hw
  unfold core_Wants wantS
  rw [core_Right_eq p c (by omega), hr]
  simp only [hh, Option.bind_some, Bool.not_true, Bool.false_eq_true, if_false, hg, a1, a2, b1, b2, c1, c2, hp]
  by_cases o1 : Ins.Op x = 16
  · simp [o1]
  · by_cases o2 : Ins.Op x = 9
    · simp [o2]
    · by_cases o3 : Ins.Op x = 10
      · simp [o3]
      · by_cases o4 : Ins.Op x = 11
        · simp [o4]
        · by_cases o5 : Ins.Op x = 15 <;> simp [o1, o2, o3, o4, o5]

theorem core_Wants_rest {p : List Ins} {c : Core} (hp : p.length ≤ 1000) (h : rightC p c = false ∨ Core.Halted c = true) (words : Int) : core_Wants p c words = some (Want.mk 5 0 0 0) := by
  unfold core_Wants
  rw [core_Right_eq p c hp]
  rcases h with h | h
  · simp [h]
  · cases rightC p c <;> simp [h]

theorem doneS_same {x : Ins} {c : Core} (h : ¬ (Ins.Op x = 9 ∨ Ins.Op x = 11)) (a b : Int) : doneS x c a = doneS x c b := by
  unfold doneS
  rw [if_neg h, if_neg h]

theorem coreAnswers_all (p : List Ins) (c : Core) (a b many : Int) (hp : ∀ x ∈ p, 0 ≤ Ins.K x ∧ Ins.K x < 4294967296) (hc : RegsOk c) (hm : 0 ≤ many ∧ many ≤ 255) : l03_CoreAnswers p c a b many = some true := by
  unfold l03_CoreAnswers
  by_cases h80 : (80 : Int) < (p.length : Int)
  · simp [l03_awake, h80]
  · have hpl : p.length ≤ 1000 := by omega
    cases hr : rightC p c with
    | false => simp [l03_awake, h80, core_Right_eq p c hpl, hr]
    | true =>
      obtain ⟨m1, m2, m3⟩ := rem_lt (a := many) (n := 64) hm.1 (by omega)
      generalize many % 64 = r at m1 m2 m3
      have wr : w64 r = r := w64_id (by omega) (by omega)
      have wn : w64 (r + 1) = r + 1 := w64_id (by omega) (by omega)
      rcases Bool.eq_false_or_eq_true (Core.Halted c) with hh | hh
      · simp [l03_awake, h80, core_Right_eq p c hpl, hr, m1, wr, wn, core_Wants_rest hpl (.inr hh), core_Done_same hpl (.inr hh)]
      · obtain ⟨k, x, f1, f2, f3, f4, f5⟩ := rightC_facts hr
        have hK := hp x (List.mem_of_getElem? f4)
        have hW := core_Wants_eq hr hh hc f1 f4 (words := r + 1) (by omega)
        have hD := fun was => core_Done_eq hr hh hc.1 f1 f4 hK was
        have hkind : (decide (Want.Kind (wantS x c (r + 1)) = 1) || decide (Want.Kind (wantS x c (r + 1)) = 3)) = decide (Ins.Op x = 9 ∨ Ins.Op x = 11) := by
          unfold wantS
          by_cases o1 : Ins.Op x = 16
          · simp [o1]
          · by_cases o2 : Ins.Op x = 9
            · simp [o2]
            · by_cases o3 : Ins.Op x = 10
              · simp [o3]
              · by_cases o4 : Ins.Op x = 11
                · simp [o4]
                · by_cases o5 : Ins.Op x = 15 <;> simp [o1, o2, o3, o4, o5]
        by_cases hread : Ins.Op x = 9 ∨ Ins.Op x = 11
        · obtain ⟨g1, g2, g3, g4⟩ := may_facts f5
          have ne1 : ¬ Ins.Op x = 1 := by omega
          have hS : ∀ was, doneS x c was = Core.mk (putN c (Ins.A x) was) (Core.PC c + 1) (Core.Halted c) := fun was => by
            unfold doneS
            rw [if_neg ne1, if_pos hread]
          have hA : (Ins.A x).toNat < (Core.Regs c).length := by rw [hc.1]; omega
          have hne : ¬ a = b → ¬ doneS x c a = doneS x c b := fun hab he => by
            rw [hS, hS] at he
            have h1 : putN c (Ins.A x) a = putN c (Ins.A x) b := congrArg Core.Regs he
            have h2 : (putN c (Ins.A x) a)[(Ins.A x).toNat]? = (putN c (Ins.A x) b)[(Ins.A x).toNat]? := by rw [h1]
            unfold putN at h2
            rw [List.getElem?_set_self hA, List.getElem?_set_self hA] at h2
            exact hab (Option.some.inj h2)
          have hPC : Core.PC (doneS x c a) = Core.PC (doneS x c b) := by rw [hS, hS]; rfl
          have hHa : Core.Halted (doneS x c a) = Core.Halted (doneS x c b) := by rw [hS, hS]; rfl
          have lp := loop_all_t (f := l03_CoreAnswers_L1 a b (doneS x c a) (doneS x c b)) (n := 8) (fun i hi => by
            have hlt : (i : Int) < 8 := by omega
            have hw : w64 ((i : Int) + 1) = (i : Int) + 1 := w64_id (by omega) (by omega)
            have hix : idxO 8 (i : Int) = some (i : Int) := idxO_lt (by omega) (by omega)
            have hil : i < (Core.Regs c).length := by rw [hc.1]; omega
            unfold l03_CoreAnswers_L1
            rw [hS, hS]
            by_cases hiA : (Ins.A x).toNat = i
            · subst hiA
              have e1 : ∀ was, getO (putN c (Ins.A x) was) ((Ins.A x).toNat : Int) = some was := fun was => by
                rw [getO_nat]; unfold putN; rw [List.getElem?_set_self hA]
              simp only [hlt, decide_true, if_true, hix, Option.bind_some, Core.Regs_mk, e1, hw]
              by_cases hab : a = b <;> simp [hab]
            · have e1 : ∀ was, getO (putN c (Ins.A x) was) (i : Int) = some (Core.Regs c)[i] := fun was => by
                rw [getO_nat]; unfold putN; rw [List.getElem?_set_ne hiA, List.getElem?_eq_getElem hil]
              simp [hlt, hix, e1, hw]) (by
            unfold l03_CoreAnswers_L1
            simp)
          have hbif : (bif !decide (a = b) then (@decide (doneS x c a = doneS x c b) (Ty.dec tCore _ _)) || ((!decide ((Core.PC (doneS x c a)) = (Core.PC (doneS x c b)))) || (!decide ((Core.Halted (doneS x c a)) = (Core.Halted (doneS x c b))))) else (!decide ((Core.PC (doneS x c a)) = (Core.PC (doneS x c b)))) || (!decide ((Core.Halted (doneS x c a)) = (Core.Halted (doneS x c b))))) = false := by
            by_cases hab : a = b
            · simp [hab]
            · have := hne hab
              simp [hab, this, hPC, hHa]
          simp only [l03_awake, Bool.not_true, Bool.false_eq_true, if_false, h80, decide_false, core_Right_eq p c hpl, hr, Option.bind_some, m1, wr, wn, hW, hD, hkind, decide_eq_true hread, hbif, lp, orExit_inl]
        · simp only [l03_awake, Bool.not_true, Bool.false_eq_true, if_false, h80, decide_false, core_Right_eq p c hpl, hr, Option.bind_some, m1, wr, wn, hW, hD, hkind, decide_eq_false hread, Bool.not_false, if_true, doneS_same hread a b]
          simp

theorem coreAnswers_ok (x : Ty.Tup F_l03_CoreAnswers.ps) (h : OkL F_l03_CoreAnswers.ps x) : F_l03_CoreAnswers.sem x = some true :=
  coreAnswers_all x.1 x.2.1 x.2.2.1 x.2.2.2.1 x.2.2.2.2
    (fun y hy => by
      have := (h.1.2 y hy).2.2.2.2
      exact ⟨this.1, by have := this.2; exact Int.lt_of_le_of_lt this (by decide)⟩)
    ⟨h.2.1.1.1, fun r hr => by
      have := h.2.1.1.2 r hr
      exact ⟨this.1, by have := this.2; exact Int.lt_of_le_of_lt this (by decide)⟩⟩
    h.2.2.2.2

end Go.Proofs.Ytflnpiknckdmfaa
