/- Layer 21: the law TraceMixes on typed data. No condition. -/
import Derived.Test.YtflnpiknckdmfaaP21b
import Derived.Test.YtflnpiknckdmfaaD213
set_option linter.unusedSimpArgs false
set_option linter.unusedVariables false
namespace Go.Proofs.Ytflnpiknckdmfaa
open Go.SX

def coreTo (n : Int) (d : Deed) : Deed := Deed.setCore d n
theorem coreTo_core (n : Int) (d : Deed) : Deed.Core (coreTo n d) = n := rfl

theorem mix_of0 : ∀ (ts : List Bool) (a b : List Deed), (∀ d ∈ a, Deed.Core d = 0) → (∀ d ∈ b, Deed.Core d = 1) → ofS (mixS ts a b) 0 = a ∧ ofS (mixS ts a b) 1 = b
  | [], a, b, ha, hb => by
    unfold ofS
    simp only [mixS, List.filter_append]
    rw [List.filter_eq_self.2 (fun d hd => by simp [ha d hd]), List.filter_eq_nil_iff.2 (fun d hd => by simp [hb d hd]), List.filter_eq_nil_iff.2 (fun d hd => by simp [ha d hd]), List.filter_eq_self.2 (fun d hd => by simp [hb d hd])]
    simp
  | true :: ts, a, [], ha, hb => by
    simp only [mixS]
    exact mix_of0 ts a [] ha hb
  | true :: ts, a, y :: b, ha, hb => by
    have hy := hb y (by simp)
    obtain ⟨h1, h2⟩ := mix_of0 ts a b ha (fun d hd => hb d (by simp [hd]))
    unfold ofS at h1 h2 ⊢
    simp [mixS, List.filter_cons, hy, h1, h2]
  | false :: ts, [], b, ha, hb => by
    simp only [mixS]
    exact mix_of0 ts [] b ha hb
  | false :: ts, x :: a, b, ha, hb => by
    have hx := ha x (by simp)
    obtain ⟨h1, h2⟩ := mix_of0 ts a b (fun d hd => ha d (by simp [hd])) hb
    unfold ofS at h1 h2 ⊢
    simp [mixS, List.filter_cons, hx, h1, h2]

theorem cores_loop {f : (Int × List Deed) → Option ((Int × List Deed) ⊕ List Deed)} {n : Int} {l : List Deed} (hl : l.length ≤ 1000)
    (step : ∀ (i : Nat) (m : List Deed) (h : i < m.length), f ((i : Int), m) = some (.inl (w64 ((i : Int) + 1), m.set i (Deed.setCore m[i] n)))) (out : ∀ m : List Deed, f ((m.length : Int), m) = some (.inr m)) : loopD f ((0 : Int), l) = some (l.map (coreTo n)) := by
  have hlen : ∀ i, i ≤ l.length → ((l.take i).map (coreTo n) ++ l.drop i).length = l.length := fun i hi => by simp; omega
  have lp := loop_good (f := f) (n := l.length) (e := l.map (coreTo n)) (fun i => ((i : Int), (l.take i).map (coreTo n) ++ l.drop i)) (fun i hi => by
    have hil : i < ((l.take i).map (coreTo n) ++ l.drop i).length := by rw [hlen i (by omega)]; exact hi
    have hti : ((l.take i).map (coreTo n)).length = i := by simp; omega
    have hx : ((l.take i).map (coreTo n) ++ l.drop i)[i] = l[i] := by
      have e : ((l.take i).map (coreTo n) ++ l.drop i)[i]? = some l[i] := by
        rw [List.getElem?_append_right (by omega), hti, Nat.sub_self, List.getElem?_drop, Nat.add_zero, List.getElem?_eq_getElem hi]
      rw [List.getElem?_eq_getElem hil] at e
      exact Option.some.inj e
    rw [step i _ hil, w64_succ (by omega), hx, take_succ_get hi, List.map_append, List.set_append_right _ _ (by omega), hti, Nat.sub_self]
    have hd : (l.drop i).set 0 (Deed.setCore l[i] n) = Deed.setCore l[i] n :: l.drop (i + 1) := by rw [List.drop_eq_getElem_cons hi]; rfl
    rw [hd]
    simp [coreTo]) (by
    have h2 : (l.take l.length).map (coreTo n) ++ l.drop l.length = l.map (coreTo n) := by simp
    have := out (l.map (coreTo n))
    rw [List.length_map] at this
    rw [h2]
    exact this)
  simpa using lp

theorem traceMixes_all (a b : List Deed) (turns : List Bool) : l21_TraceMixes a b turns = some true := by
  unfold l21_TraceMixes
  by_cases hc : (100 : Int) < (a.length : Int) ∨ (100 : Int) < (b.length : Int) ∨ (300 : Int) < (turns.length : Int)
  · have : (decide ((100 : Int) < (a.length : Int)) || (decide ((100 : Int) < (b.length : Int)) || decide ((300 : Int) < (turns.length : Int)))) = true := by
      simp only [Bool.or_eq_true, decide_eq_true_eq]; exact hc
    simp only [l21_awake, this, Bool.not_true, Bool.false_eq_true, if_false, if_true]
  · have hc' : (decide ((100 : Int) < (a.length : Int)) || (decide ((100 : Int) < (b.length : Int)) || decide ((300 : Int) < (turns.length : Int)))) = false := by
      simp only [Bool.or_eq_false_iff, decide_eq_false_iff_not]; omega
    have h1 : appO 32 ([] : List Deed) a = some a := appO_small (by simp; omega) (by omega)
    have h2 : appO 32 ([] : List Deed) b = some b := appO_small (by simp; omega) (by omega)
    have l2 := cores_loop (f := l21_TraceMixes_L2) (n := 0) (l := a) (by omega) (fun i m hi => by
      have hlt : (i : Int) < (List.length m : Int) := by omega
      unfold l21_TraceMixes_L2
      simp only [hlt, decide_true, if_true, idxO_in hi, getO_in hi, setO_in hi, Option.bind_some]) (fun m => by
      unfold l21_TraceMixes_L2
      simp)
    have l1 := cores_loop (f := l21_TraceMixes_L1) (n := 1) (l := b) (by omega) (fun i m hi => by
      have hlt : (i : Int) < (List.length m : Int) := by omega
      unfold l21_TraceMixes_L1
      simp only [hlt, decide_true, if_true, idxO_in hi, getO_in hi, setO_in hi, Option.bind_some]) (fun m => by
      unfold l21_TraceMixes_L1
      simp)
    obtain ⟨o1, o2⟩ := mix_of0 turns (a.map (coreTo 0)) (b.map (coreTo 1)) (fun d hd => by obtain ⟨x, _, rfl⟩ := List.mem_map.1 hd; rfl) (fun d hd => by obtain ⟨x, _, rfl⟩ := List.mem_map.1 hd; rfl)
    have hml := mixS_len turns (a.map (coreTo 0)) (b.map (coreTo 1))
    have la : (a.map (coreTo 0)).length = a.length := by simp
    have lb : (b.map (coreTo 1)).length = b.length := by simp
    have hw : w64 (((a.map (coreTo 0)).length : Int) + ((b.map (coreTo 1)).length : Int)) = ((mixS turns (a.map (coreTo 0)) (b.map (coreTo 1))).length : Int) := by rw [w64_id (by omega) (by omega)]; omega
    simp only [l21_awake, hc', Bool.not_true, Bool.false_eq_true, if_false, h1, h2, Option.bind_some, l1, l2, trace_Mix_eq _ _ turns (show (a.map (coreTo 0)).length ≤ 1000 by omega) (show (b.map (coreTo 1)).length ≤ 1000 by omega) (by omega), hw, decide_true, if_true, trace_Of_eq _ (show (mixS turns (a.map (coreTo 0)) (b.map (coreTo 1))).length ≤ 1000 by omega), o1, o2, r21_Same_refl _ (show (a.map (coreTo 0)).length ≤ 100000 by omega), r21_Same_refl _ (show (b.map (coreTo 1)).length ≤ 100000 by omega)]

theorem traceMixes_ok (x : Ty.Tup F_l21_TraceMixes.ps) (h : OkL F_l21_TraceMixes.ps x) : F_l21_TraceMixes.sem x = some true :=
  traceMixes_all x.1 x.2.1 x.2.2

end Go.Proofs.Ytflnpiknckdmfaa
