/- Layer 22: known, all; the law WatchRight on typed data. -/
import Derived.Test.YtihchahfnhoapaaPW22d
set_option linter.unusedSimpArgs false
set_option linter.unusedVariables false
namespace Go.Proofs.Ytihchahfnhoapaa
open Go.SX

def entryAt (p : Proto) (l : Nat) : Entry := (Proto.Dir p)[l]?.getD (Entry.mk 0 [])
def homeV (p : Proto) (l : Nat) : Int := (Proto.Home p)[l]?.getD 0
def shareV (p : Proto) (l n : Nat) : Bool := (Entry.Share (entryAt p l))[n]?.getD false
def fitB (p : Proto) (l n : Nat) : Bool :=
  if stV p n l = 0 then !decide (Entry.Owner (entryAt p l) = ((n + 1 : Nat) : Int))
  else if stV p n l = 1 then !decide (Entry.Owner (entryAt p l) = ((n + 1 : Nat) : Int)) && (shareV p l n && (decide (0 < Entry.Owner (entryAt p l)) || decide (homeV p l = valV p n l)))
  else if stV p n l = 2 then decide (Entry.Owner (entryAt p l) = ((n + 1 : Nat) : Int)) && decide (homeV p l = valV p n l)
  else decide (Entry.Owner (entryAt p l) = ((n + 1 : Nat) : Int))
theorem entry_get {p : Proto} (R : RF p) {l : Nat} (hl : l < (Proto.Home p).length) : getO (Proto.Dir p) (l : Int) = some (entryAt p l) ∧ getO (Proto.Home p) (l : Int) = some (homeV p l) ∧ 0 ≤ Entry.Owner (entryAt p l) ∧ (Entry.Share (entryAt p l)).length = (Proto.Wait p).length := by
  have hd : l < (Proto.Dir p).length := by have := R.dl; omega
  have e : entryAt p l = (Proto.Dir p)[l] := by unfold entryAt; rw [List.getElem?_eq_getElem hd]; rfl
  have o := R.own l hd
  rw [← e] at o
  refine ⟨by rw [getO_in hd, e], ?_, o⟩
  rw [getO_in hl]
  unfold homeV
  rw [List.getElem?_eq_getElem hl]
  rfl
theorem share_get {p : Proto} (R : RF p) {l n : Nat} (hl : l < (Proto.Home p).length) (hn : n < (Proto.Wait p).length) : getO (Entry.Share (entryAt p l)) (n : Int) = some (shareV p l n) := by
  have h := (entry_get R hl).2.2.2
  have hh : n < (Entry.Share (entryAt p l)).length := Nat.lt_of_lt_of_eq hn h.symm
  rw [getO_in hh]
  unfold shareV
  rw [List.getElem?_eq_getElem hh]
  rfl
theorem fits_eq {p : Proto} (R : RF p) {l n : Nat} (hl : l < (Proto.Home p).length) (hn : n < (Proto.Wait p).length) : watch_fits p (n : Int) (l : Int) = some (fitB p l n) := by
  obtain ⟨g1, g2, g3, g4⟩ := st_get R hn hl
  obtain ⟨e1, e2, e3, e4⟩ := entry_get R hl
  have h4 := R.w4
  have sh := share_get R hl hn
  unfold watch_fits fitB
  simp only [g1, g2, g3, g4, e1, e2, Option.bind_some, sh, w64_succ (show n < 4611686018427387904 by omega)]
  by_cases s0 : stV p n l = 0
  · simp only [s0, decide_true, if_true]
  by_cases s1 : stV p n l = 1
  · simp only [s0, s1, decide_true, decide_false, Bool.false_eq_true, if_false, if_true, show ¬ (1 : Int) = 0 by omega]
    cases decide (Entry.Owner (entryAt p l) = ((n + 1 : Nat) : Int))
    · cases shareV p l n
      · rfl
      · cases decide (0 < Entry.Owner (entryAt p l)) <;> rfl
    · rfl
  by_cases s2 : stV p n l = 2
  · simp only [s0, s1, s2, decide_true, decide_false, Bool.false_eq_true, if_false, if_true, show ¬ (2 : Int) = 0 by omega, show ¬ (2 : Int) = 1 by omega]
  · simp only [s0, s1, s2, decide_false, Bool.false_eq_true, if_false]
def knownB (p : Proto) (line : Int) : Bool := thereB p line && (!calmB p || (List.range (Proto.Wait p).length).all (fitB p line.toNat))
theorem known1 {p : Proto} (hs : ShortP p) (line : Int) : watch_Known p line = some (knownB p line) := by
  unfold watch_Known knownB
  rw [there1 hs line, calm1 hs]
  cases ht : thereB p line
  · rfl
  cases calmB p
  · rfl
  unfold thereB at ht
  rw [Bool.and_eq_true] at ht
  have R := rf_of ht.1
  have hl' := within_iff.1 ht.2
  obtain ⟨l, rfl⟩ : ∃ l : Nat, line = (l : Int) := ⟨line.toNat, by omega⟩
  have hll : l < (Proto.Home p).length := by omega
  have hsl := R.sl
  have h4 := R.w4
  rw [Int.toNat_natCast]
  have lp := check_all (f := watch_Known_L1 p (l : Int) (List.length (Proto.State p) : Int)) (n := (Proto.Wait p).length) (g := fun _ => some true) (fun i => (i : Int)) (fitB p l) (fun i hi _ => by
    have hlt : (i : Int) < (List.length (Proto.State p) : Int) := by omega
    unfold watch_Known_L1
    simp only [hlt, decide_true, if_true, fits_eq R hll hi, Option.bind_some, w64_succ (show i < 4611686018427387904 by omega)]
    cases fitB p l i <;> rfl) (fun _ => by
    unfold watch_Known_L1
    have : ¬ ((Proto.Wait p).length : Int) < (List.length (Proto.State p) : Int) := by omega
    simp only [this, decide_false, Bool.false_eq_true, if_false])
  rw [show (((0 : Nat) : Int)) = 0 from rfl] at lp
  simp only [Option.bind_some, Bool.not_true, Bool.false_eq_true, if_false, Bool.true_and, Bool.false_or, lp]
  cases (List.range (Proto.Wait p).length).all (fitB p l) <;> rfl
theorem known_step {p : Proto} (R : RF p) {l n : Nat} (hl : l < (Proto.Home p).length) (hn : n < (Proto.Wait p).length) : r22_Known_L1 p (l : Int) (entryAt p l) (n : Int) = some (if fitB p l n = true then .inl ((n + 1 : Nat) : Int) else .inr (.inr false)) := by
  obtain ⟨g1, g2, g3, g4⟩ := st_get R hn hl
  obtain ⟨e1, e2, e3, e4⟩ := entry_get R hl
  have h4 := R.w4
  have hsl := R.sl
  have sh := share_get R hl hn
  have hlt : (n : Int) < (List.length (Proto.State p) : Int) := by omega
  have hrow := (R.row n hn).1
  have hst : 0 ≤ stV p n l ∧ stV p n l ≤ 4 := by
    unfold stV
    rw [List.getElem?_eq_getElem (by omega)]
    exact R.st n hn _ (List.getElem_mem (by omega))
  unfold r22_Known_L1
  simp only [hlt, decide_true, if_true, g1, g2, g3, g4, e2, Option.bind_some, sh, w64_succ (show n < 4611686018427387904 by omega)]
  obtain ⟨s, hsv⟩ : ∃ s, s = stV p n l := ⟨_, rfl⟩
  obtain ⟨o, hov⟩ : ∃ o, o = Entry.Owner (entryAt p l) := ⟨_, rfl⟩
  obtain ⟨v, hvv⟩ : ∃ v, v = valV p n l := ⟨_, rfl⟩
  obtain ⟨h, hhv⟩ : ∃ h, h = homeV p l := ⟨_, rfl⟩
  obtain ⟨sb, hsb⟩ : ∃ sb, sb = shareV p l n := ⟨_, rfl⟩
  have hf : fitB p l n = (if s = 0 then !decide (o = ((n + 1 : Nat) : Int)) else if s = 1 then !decide (o = ((n + 1 : Nat) : Int)) && (sb && (decide (0 < o) || decide (h = v))) else if s = 2 then decide (o = ((n + 1 : Nat) : Int)) && decide (h = v) else decide (o = ((n + 1 : Nat) : Int))) := by
    rw [hsv, hov, hvv, hhv, hsb]
    rfl
  rw [hf, ← hsv, ← hov, ← hvv, ← hhv, ← hsb]
  rw [← hsv] at hst
  rw [← hov] at e3
  have hvh : decide (v = h) = decide (h = v) := by
    rw [Bool.eq_iff_iff, decide_eq_true_eq, decide_eq_true_eq]
    exact eq_comm
  rw [hvh]
  by_cases ho : o = ((n + 1 : Nat) : Int)
  · have ho0 : ¬ o = 0 := by omega
    have hop : 0 < o := by omega
    rw [decide_eq_true ho, decide_eq_false ho0, decide_eq_true hop]
    by_cases s0 : s = 0
    · subst s0
      rfl
    by_cases s1 : s = 1
    · subst s1
      rfl
    have s2' : 2 ≤ s := by omega
    rw [decide_eq_true s2', decide_eq_false s1, if_neg s0, if_neg s1]
    by_cases s2 : s = 2
    · subst s2
      cases decide (h = v) <;> rfl
    · rw [decide_eq_false s2, if_neg s2]
      rfl
  · rw [decide_eq_false ho]
    by_cases s0 : s = 0
    · subst s0
      cases decide (o = 0) <;> rfl
    by_cases s1 : s = 1
    · subst s1
      cases sb
      · rfl
      · by_cases ho0 : o = 0
        · rw [decide_eq_true ho0, decide_eq_false (show ¬ 0 < o by omega)]
          cases decide (h = v) <;> rfl
        · rw [decide_eq_false ho0, decide_eq_true (show 0 < o by omega)]
          rfl
    have s2' : 2 ≤ s := by omega
    rw [decide_eq_true s2', decide_eq_false s1, if_neg s0, if_neg s1]
    by_cases s2 : s = 2
    · subst s2
      rfl
    · rw [decide_eq_false s2, if_neg s2]
      rfl
theorem known2 {p : Proto} (hs : ShortP p) (line : Int) : r22_Known p line = some (knownB p line) := by
  unfold r22_Known knownB
  rw [there2 hs line, calm2 hs]
  cases ht : thereB p line
  · rfl
  cases calmB p
  · rfl
  unfold thereB at ht
  rw [Bool.and_eq_true] at ht
  have R := rf_of ht.1
  have hl' := within_iff.1 ht.2
  obtain ⟨l, rfl⟩ : ∃ l : Nat, line = (l : Int) := ⟨line.toNat, by omega⟩
  have hll : l < (Proto.Home p).length := by omega
  have hsl := R.sl
  rw [Int.toNat_natCast]
  obtain ⟨e1, _⟩ := entry_get R hll
  have lp := check_all (f := r22_Known_L1 p (l : Int) (entryAt p l)) (n := (Proto.Wait p).length) (g := fun _ => some true) (fun i => (i : Int)) (fitB p l) (fun i hi _ => known_step R hll hi) (fun _ => by
    unfold r22_Known_L1
    have : ¬ ((Proto.Wait p).length : Int) < (List.length (Proto.State p) : Int) := by omega
    simp only [this, decide_false, Bool.false_eq_true, if_false])
  rw [show (((0 : Nat) : Int)) = 0 from rfl] at lp
  simp only [Option.bind_some, Bool.not_true, Bool.false_eq_true, if_false, Bool.true_and, Bool.false_or, e1, lp]
  cases (List.range (Proto.Wait p).length).all (fitB p l) <;> rfl

/-! ### All -/
def allL (p : Proto) (l : Nat) : Bool := aloneB p (l : Int) && (alikeB p (l : Int) && knownB p (l : Int))
theorem all1 {p : Proto} (hs : ShortP p) : watch_All p = some ((List.range (Proto.Home p).length).all (allL p) && rightB p) := by
  unfold watch_All
  have h20 := hs.home
  have lp := fun g => check_all (f := watch_All_L1 p (List.length (Proto.Home p) : Int)) (n := (Proto.Home p).length) (g := g) (fun i => (i : Int)) (allL p) (fun i hi _ => by
    have hlt : (i : Int) < (List.length (Proto.Home p) : Int) := by omega
    unfold watch_All_L1 allL
    simp only [hlt, decide_true, if_true, alone1 hs, alike1 hs, known1 hs, Option.bind_some, w64_succ (show i < 4611686018427387904 by omega)]
    cases aloneB p (i : Int)
    · rfl
    · cases alikeB p (i : Int)
      · rfl
      · cases knownB p (i : Int) <;> rfl) (fun _ => by
    unfold watch_All_L1
    simp only [show ¬ (List.length (Proto.Home p) : Int) < (List.length (Proto.Home p) : Int) by omega, decide_false, Bool.false_eq_true, if_false])
  have lp' := lp (fun _ : Unit => (proto_Right p).bind fun v3 => some (v3))
  rw [show (((0 : Nat) : Int)) = 0 from rfl] at lp'
  rw [lp', proto_Right_eq hs]
  cases (List.range (Proto.Home p).length).all (allL p) <;> rfl
theorem all2 {p : Proto} (hs : ShortP p) : r22_All p = some (rightB p && (List.range (Proto.Home p).length).all (allL p)) := by
  unfold r22_All
  rw [r10_Right_eq hs]
  cases rightB p
  · rfl
  have h20 := hs.home
  have lp := check_all (f := r22_All_L1 p) (n := (Proto.Home p).length) (g := fun _ => some true) (fun i => (i : Int)) (allL p) (fun i hi _ => by
    have hlt : (i : Int) < (List.length (Proto.Home p) : Int) := by omega
    unfold r22_All_L1 allL
    simp only [hlt, decide_true, if_true, alone2 hs, alike2 hs, known2 hs, Option.bind_some, w64_succ (show i < 4611686018427387904 by omega)]
    cases aloneB p (i : Int)
    · rfl
    · cases alikeB p (i : Int)
      · rfl
      · cases knownB p (i : Int) <;> rfl) (fun _ => by
    unfold r22_All_L1
    simp only [show ¬ (List.length (Proto.Home p) : Int) < (List.length (Proto.Home p) : Int) by omega, decide_false, Bool.false_eq_true, if_false])
  rw [show (((0 : Nat) : Int)) = 0 from rfl] at lp
  simp only [Option.bind_some, Bool.not_true, Bool.false_eq_true, if_false, lp, Bool.true_and]
  cases (List.range (Proto.Home p).length).all (allL p) <;> rfl

theorem r09_Ints_refl (l : List Int) (hl : l.length ≤ 1000) : r09_Ints l l = some true := by
  unfold r09_Ints
  have lp := loop_good (f := r09_Ints_L1 l l) (n := l.length) (e := (Sum.inl () : Unit ⊕ Bool)) (fun i => (i : Int)) (fun i hi => by
    have hlt : (i : Int) < (List.length l : Int) := by omega
    unfold r09_Ints_L1
    simp only [hlt, decide_true, if_true, getO_in hi, Option.bind_some, Bool.not_true, Bool.false_eq_true, if_false, w64_succ (show i < 4611686018427387904 by omega)]) (by
    unfold r09_Ints_L1
    simp only [show ¬ (List.length l : Int) < (List.length l : Int) by omega, decide_false, Bool.false_eq_true, if_false])
  rw [show (((0 : Nat) : Int)) = 0 from rfl] at lp
  simp only [decide_true, Bool.not_true, Bool.false_eq_true, if_false, lp, orExit_inl]

theorem watchRight_all (p : Proto) (line : Int) : l22_WatchRight p line = some true := by
  unfold l22_WatchRight
  obtain ⟨s, hs, hS⟩ := short_ends p
  rw [hs]
  cases s
  · rfl
  have S := hS rfl
  have hw6 := S.wait
  have hwl := whoS_len p line (Proto.Wait p).length
  have hcomm : (rightB p && (List.range (Proto.Home p).length).all (allL p)) = ((List.range (Proto.Home p).length).all (allL p) && rightB p) := Bool.and_comm _ _
  simp only [l22_awake, Bool.not_true, Bool.false_eq_true, if_false, Option.bind_some, alone1 S, alone2 S, decide_true, if_true, alike1 S, alike2 S, known1 S, known2 S, calm1 S, calm2 S, all1 S, all2 S, hcomm, who_is S, r22_who S, r09_Ints_refl _ (show (whoS p line (Proto.Wait p).length).length ≤ 1000 by omega)]

theorem watchRight_ok (x : Ty.Tup F_l22_WatchRight.ps) (h : OkL F_l22_WatchRight.ps x) : F_l22_WatchRight.sem x = some true :=
  watchRight_all x.1 x.2

end Go.Proofs.Ytihchahfnhoapaa
