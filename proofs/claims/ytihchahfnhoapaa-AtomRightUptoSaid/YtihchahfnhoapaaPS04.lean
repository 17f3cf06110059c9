/- Layer 4: a machine on one memory: lists that are alike, programs that may be, what is done to the memory, one step. -/
import Derived.Test.YtihchahfnhoapaaPG
import Derived.Test.YtihchahfnhoapaaPS03f
set_option linter.unusedSimpArgs false
set_option linter.unusedVariables false
namespace Go.Proofs.Ytihchahfnhoapaa
open Go.SX

/-! ### A core that is there -/
theorem z32 : (0 : Int) ≤ 0 ∧ (0 : Int) < 4294967296 := by omega
def insAt (p : List Ins) (k : Int) : Ins := (p[k.toNat]?).getD (Ins.mk 0 0 0 0 0)
def goesC (p : List Ins) (c : Core) : Bool := rightC p c && !Core.Halted c
def wantF (p : List Ins) (c : Core) (words : Int) : Want := if goesC p c = true then wantS (insAt p (Core.PC c)) c words else Want.mk 5 0 0 0
def doneF (p : List Ins) (c : Core) (was : Int) : Core := if goesC p c = true then doneS (insAt p (Core.PC c)) c was else c
theorem goesC_no {p : List Ins} {c : Core} (h : goesC p c = false) : rightC p c = false ∨ Core.Halted c = true := by
  unfold goesC at h
  cases h1 : rightC p c
  · exact .inl rfl
  · rw [h1] at h
    cases h2 : Core.Halted c
    · rw [h2] at h; cases h
    · exact .inr rfl
theorem goesC_yes {p : List Ins} {c : Core} (h : goesC p c = true) : rightC p c = true ∧ Core.Halted c = false := by
  unfold goesC at h
  rw [Bool.and_eq_true, Bool.not_eq_true'] at h
  exact h
theorem insAt_is {p : List Ins} {c : Core} {k : Nat} {x : Ins} (hk : Core.PC c = (k : Int)) (hx : p[k]? = some x) : insAt p (Core.PC c) = x := by
  unfold insAt
  rw [hk, Int.toNat_natCast, hx]
  rfl
def insOk (p : List Ins) : Prop := ∀ x ∈ p, 0 ≤ Ins.K x ∧ Ins.K x < 4294967296
theorem core_Wants_all {p : List Ins} {c : Core} (hp : p.length ≤ 1000) (hc : RegsOk c) {words : Int} (hw : words ≤ 9223372036854775807) : core_Wants p c words = some (wantF p c words) := by
  unfold wantF
  cases h : goesC p c
  · rw [if_neg (by simp)]
    exact core_Wants_rest hp (goesC_no h) words
  · obtain ⟨hr, hh⟩ := goesC_yes h
    obtain ⟨k, x, f1, f2, f3, f4, f5⟩ := rightC_facts hr
    rw [if_pos rfl, core_Wants_eq hr hh hc f1 f4 hw, insAt_is f1 f4]
theorem r03_Wants_all {p : List Ins} {c : Core} (hK : insOk p) (hp : p.length ≤ 1000) (hc : RegsOk c) (words : Int) : r03_Wants p c words = some (wantF p c words) := by
  unfold wantF
  cases h : goesC p c
  · rw [if_neg (by simp)]
    exact r03_Wants_rest hK hp (goesC_no h) words
  · obtain ⟨hr, hh⟩ := goesC_yes h
    obtain ⟨k, x, f1, f2, f3, f4, f5⟩ := rightC_facts hr
    rw [if_pos rfl, r03_Wants_eq hK hr hh hc f1 f4 words, insAt_is f1 f4]
theorem core_Done_all {p : List Ins} {c : Core} (hK : insOk p) (hp : p.length ≤ 1000) (hc : RegsOk c) (was : Int) : core_Done p c was = some (doneF p c was) := by
  unfold doneF
  cases h : goesC p c
  · rw [if_neg (by simp)]
    exact core_Done_same hp (goesC_no h) was
  · obtain ⟨hr, hh⟩ := goesC_yes h
    obtain ⟨k, x, f1, f2, f3, f4, f5⟩ := rightC_facts hr
    rw [if_pos rfl, core_Done_eq hr hh hc.1 f1 f4 (hK x (List.mem_of_getElem? f4)) was, insAt_is f1 f4]
theorem r03_Done_all {p : List Ins} {c : Core} (hK : insOk p) (hp : p.length ≤ 1000) (hc : RegsOk c) (was : Int) : r03_Done p c was = some (doneF p c was) := by
  unfold doneF
  cases h : goesC p c
  · rw [if_neg (by simp)]
    exact r03_Done_same hK hp (goesC_no h) was
  · obtain ⟨hr, hh⟩ := goesC_yes h
    obtain ⟨k, x, f1, f2, f3, f4, f5⟩ := rightC_facts hr
    rw [if_pos rfl, r03_Done_eq hK hr hh hc f1 f4 was, insAt_is f1 f4]
theorem doneF_regs {p : List Ins} {c : Core} (hK : insOk p) (hc : RegsOk c) {was : Int} (hw : 0 ≤ was ∧ was < 4294967296) : RegsOk (doneF p c was) := by
  unfold doneF
  cases h : goesC p c
  · rw [if_neg (by simp)]; exact hc
  · obtain ⟨hr, hh⟩ := goesC_yes h
    obtain ⟨k, x, f1, f2, f3, f4, f5⟩ := rightC_facts hr
    rw [if_pos rfl, insAt_is f1 f4]
    exact doneS_regs hc (hK x (List.mem_of_getElem? f4)) hw
theorem doneF_right {p : List Ins} {c : Core} (hK : insOk p) (hr : rightC p c = true) (was : Int) : rightC p (doneF p c was) = true := by
  unfold doneF
  cases h : goesC p c
  · rw [if_neg (by simp)]; exact hr
  · obtain ⟨k, x, f1, f2, f3, f4, f5⟩ := rightC_facts hr
    rw [if_pos rfl, insAt_is f1 f4]
    exact doneS_right hr f1 f4 (hK x (List.mem_of_getElem? f4)) was
theorem wantF_val {p : List Ins} {c : Core} (hc : RegsOk c) (words : Int) : 0 ≤ Want.Val (wantF p c words) ∧ Want.Val (wantF p c words) < 4294967296 := by
  unfold wantF
  cases h : goesC p c
  · rw [if_neg (by simp)]
    exact z32
  · obtain ⟨hr, hh⟩ := goesC_yes h
    obtain ⟨k, x, f1, f2, f3, f4, f5⟩ := rightC_facts hr
    rw [if_pos rfl, insAt_is f1 f4]
    obtain ⟨m1, m2, m3, m4⟩ := may_facts f5
    have r1 := regN_in hc m2
    have r2 := regN_in hc m3
    have r3 := regN_in hc m4
    unfold wantS
    split
    · exact z32
    split
    · exact z32
    split
    · exact r1
    split
    · first | exact r3 | exact r1 | exact r2
    split
    · exact r1
    · exact z32

/-! ### Lists that are alike -/
theorem r04_Words_refl (l : List Int) (hl : l.length ≤ 2000000) : r04_Words l l = some true := by
  unfold r04_Words
  have lp := loop_good (f := r04_Words_L1 l l) (n := l.length) (e := (Sum.inl () : Unit ⊕ Bool)) (fun i => (i : Int)) (fun i hi => by
    have hlt : (i : Int) < (List.length l : Int) := by omega
    unfold r04_Words_L1
    simp only [hlt, decide_true, if_true, getO_in hi, Option.bind_some, Bool.not_true, Bool.false_eq_true, if_false, w64_succ (show i < 4611686018427387904 by omega)]) (by
    unfold r04_Words_L1
    simp only [show ¬ (List.length l : Int) < (List.length l : Int) by omega, decide_false, Bool.false_eq_true, if_false])
  rw [show (((0 : Nat) : Int)) = 0 from rfl] at lp
  simp only [decide_true, Bool.not_true, Bool.false_eq_true, if_false, lp, orExit_inl]
theorem decCore (a b : Core) (h : a = b) : @decide (a = b) (Ty.dec tCore a b) = true := @decide_eq_true (a = b) (Ty.dec tCore a b) h
theorem decTold (a b : Told) (h : a = b) : @decide (a = b) (Ty.dec tTold a b) = true := @decide_eq_true (a = b) (Ty.dec tTold a b) h
theorem r04_Cores_refl (l : List Core) (hl : l.length ≤ 2000000) : r04_Cores l l = some true := by
  unfold r04_Cores
  have lp := loop_good (f := r04_Cores_L1 l l) (n := l.length) (e := (Sum.inl () : Unit ⊕ Bool)) (fun i => (i : Int)) (fun i hi => by
    have hlt : (i : Int) < (List.length l : Int) := by omega
    have he : @decide (l[i] = l[i]) (Ty.dec tCore _ _) = true := decCore _ _ rfl
    unfold r04_Cores_L1
    simp only [hlt, decide_true, if_true, getO_in hi, Option.bind_some, he, Bool.not_true, Bool.false_eq_true, if_false, w64_succ (show i < 4611686018427387904 by omega)]) (by
    unfold r04_Cores_L1
    simp only [show ¬ (List.length l : Int) < (List.length l : Int) by omega, decide_false, Bool.false_eq_true, if_false])
  rw [show (((0 : Nat) : Int)) = 0 from rfl] at lp
  simp only [decide_true, Bool.not_true, Bool.false_eq_true, if_false, lp, orExit_inl]
theorem r04_Outs_refl (l : List Told) (hl : l.length ≤ 2000000) : r04_Outs l l = some true := by
  unfold r04_Outs
  have lp := loop_good (f := r04_Outs_L1 l l) (n := l.length) (e := (Sum.inl () : Unit ⊕ Bool)) (fun i => (i : Int)) (fun i hi => by
    have hlt : (i : Int) < (List.length l : Int) := by omega
    have he : @decide (l[i] = l[i]) (Ty.dec tTold _ _) = true := decTold _ _ rfl
    unfold r04_Outs_L1
    simp only [hlt, decide_true, if_true, getO_in hi, Option.bind_some, he, Bool.not_true, Bool.false_eq_true, if_false, w64_succ (show i < 4611686018427387904 by omega)]) (by
    unfold r04_Outs_L1
    simp only [show ¬ (List.length l : Int) < (List.length l : Int) by omega, decide_false, Bool.false_eq_true, if_false])
  rw [show (((0 : Nat) : Int)) = 0 from rfl] at lp
  simp only [decide_true, Bool.not_true, Bool.false_eq_true, if_false, lp, orExit_inl]
def smallA (a : Atom) : Prop := (Atom.Mem a).length ≤ 1000 ∧ (Atom.Cores a).length ≤ 1000 ∧ (Atom.Outs a).length ≤ 2000000
theorem r04_Same_refl (a : Atom) (h : smallA a) : r04_Same a a = some true := by
  unfold r04_Same
  rw [r04_Words_refl _ (by have := h.1; omega)]
  simp only [Option.bind_some, if_true, r04_Cores_refl _ (show (Atom.Cores a).length ≤ 2000000 by have := h.2.1; omega), r04_Outs_refl _ h.2.2]

/-! ### Programs that may be -/
def progsOk (ps : List (List Ins)) : Prop := ps.length ≤ 6 ∧ ∀ p ∈ ps, p.length ≤ 80 ∧ insOk p
def shortP (ps : List (List Ins)) : Bool := decide (ps.length ≤ 6) && ps.all fun p => decide (p.length ≤ 80)
theorem r02_Short_eq (ps : List (List Ins)) : r02_Short ps = some (shortP ps) := by
  unfold r02_Short shortP
  by_cases h6 : ps.length ≤ 6
  · have h6' : ¬ (6 : Int) < (ps.length : Int) := by omega
    have lp := check_all (f := r02_Short_L1 ps) (n := ps.length) (g := fun _ => some true) (fun i => (i : Int)) (fun i => optT (fun p => decide (p.length ≤ 80)) ps[i]?) (fun i hi _ => by
      have hlt : (i : Int) < (List.length ps : Int) := by omega
      rw [optT_in hi]
      unfold r02_Short_L1
      simp only [hlt, decide_true, if_true, getO_in hi, Option.bind_some, w64_succ (show i < 4611686018427387904 by omega)]
      by_cases h : ps[i].length ≤ 80
      · have h' : ¬ (80 : Int) < (ps[i].length : Int) := by omega
        simp only [h, h', decide_true, decide_false, Bool.false_eq_true, if_false, if_true]
      · have h' : (80 : Int) < (ps[i].length : Int) := by omega
        simp only [h, h', decide_true, decide_false, Bool.false_eq_true, if_false, if_true]) (fun _ => by
      unfold r02_Short_L1
      simp only [show ¬ (List.length ps : Int) < (List.length ps : Int) by omega, decide_false, Bool.false_eq_true, if_false])
    rw [show (((0 : Nat) : Int)) = 0 from rfl] at lp
    rw [decide_eq_false h6', if_neg (by simp), lp, decide_eq_true h6, ← all_range, Bool.true_and]
    cases ps.all fun p => decide (p.length ≤ 80) <;> rfl
  · have h6' : (6 : Int) < (ps.length : Int) := by omega
    rw [decide_eq_true h6', if_pos rfl, decide_eq_false h6]
    rfl
theorem short_ok {ps : List (List Ins)} (h : shortP ps = true) (hK : ∀ p ∈ ps, insOk p) : progsOk ps := by
  unfold shortP at h
  rw [Bool.and_eq_true, decide_eq_true_eq, List.all_eq_true] at h
  exact ⟨h.1, fun p hp => ⟨of_decide_eq_true (h.2 p hp), hK p hp⟩⟩
def allP (ps : List (List Ins)) : Bool := decide (1 ≤ ps.length ∧ ps.length ≤ 4) && ps.all rightP
theorem isa_All_eq {ps : List (List Ins)} (h : progsOk ps) : isa_All ps = some (allP ps) := by
  unfold isa_All allP
  have h6 := h.1
  by_cases h4 : 1 ≤ ps.length ∧ ps.length ≤ 4
  · have hc : ((decide ((1 : Int) ≤ (List.length ps : Int))) && (decide ((List.length ps : Int) ≤ (4 : Int)))) = true := by
      simp only [Bool.and_eq_true, decide_eq_true_eq]; omega
    have lp := loop_first (f := isa_All_L1 ps (List.length ps : Int)) (n := ps.length) (fun i => (i : Int)) (fun i => optT rightP ps[i]?) (e := (Sum.inl () : Unit ⊕ Int)) (r := fun i => .inr (i : Int)) (fun i hi _ => by
      have hlt : (i : Int) < (List.length ps : Int) := by omega
      have hr := isa_Right_eq ps[i] (by have := (h.2 ps[i] (List.getElem_mem hi)).1; omega)
      rw [optT_in hi]
      unfold isa_All_L1
      simp only [hlt, decide_true, if_true, getO_in hi, Option.bind_some, isa_All_1, hr, w64_succ (show i < 4611686018427387904 by omega)]
      cases rightP ps[i] <;> rfl) (fun _ => by
      unfold isa_All_L1
      simp only [show ¬ (List.length ps : Int) < (List.length ps : Int) by omega, decide_false, Bool.false_eq_true, if_false])
    rw [show (((0 : Nat) : Int)) = 0 from rfl] at lp
    have f1 := (firstI_facts (fun i => optT rightP ps[i]?) ps.length).1
    have f2 := firstI_all (ok := fun i => optT rightP ps[i]?) (n := ps.length)
    rw [← range_all, ← all_range] at f2
    rw [hc, if_pos rfl]
    simp only [lp]
    rw [decide_eq_true h4, Bool.true_and]
    by_cases ha : ps.all rightP = true
    · have := f2.2 ha
      rw [if_neg (by omega), ha]
      rfl
    · have : firstI (fun i => optT rightP ps[i]?) ps.length < ps.length := by
        rcases Nat.lt_or_ge (firstI (fun i => optT rightP ps[i]?) ps.length) ps.length with q | q
        · exact q
        · exact absurd (f2.1 (by omega)) ha
      rw [if_pos this, Bool.eq_false_iff.2 ha]
      have h0 : (0 : Int) ≤ ((firstI (fun i => optT rightP ps[i]?) ps.length : Nat) : Int) := by omega
      simp only [orExit_inr, Option.bind_some, h0, decide_true, Bool.not_true]
  · have hc : ((decide ((1 : Int) ≤ (List.length ps : Int))) && (decide ((List.length ps : Int) ≤ (4 : Int)))) = false := by
      cases e : ((decide ((1 : Int) ≤ (List.length ps : Int))) && (decide ((List.length ps : Int) ≤ (4 : Int))))
      · rfl
      · simp only [Bool.and_eq_true, decide_eq_true_eq] at e
        omega
    rw [hc, if_neg (by simp), decide_eq_false h4]
    rfl
theorem r02_All_eq {ps : List (List Ins)} (h : progsOk ps) : r02_All ps = some (allP ps) := by
  unfold r02_All allP
  have h6 := h.1
  have lp := check_all (f := r02_All_L1 ps) (n := ps.length) (g := fun _ => some (decide ((0 : Int) < (List.length ps : Int)))) (fun i => (i : Int)) (fun i => decide (i ≤ 3) && optT rightP ps[i]?) (fun i hi _ => by
    have hlt : (i : Int) < (List.length ps : Int) := by omega
    obtain ⟨q1, q2⟩ := h.2 ps[i] (List.getElem_mem hi)
    have hr := r02_Right_eq ps[i] (by omega) q2
    rw [optT_in hi]
    unfold r02_All_L1
    simp only [hlt, decide_true, if_true, getO_in hi, Option.bind_some, hr, w64_succ (show i < 4611686018427387904 by omega)]
    by_cases h3 : i ≤ 3
    · have h3' : ¬ (3 : Int) < (i : Int) := by omega
      simp only [h3, h3', decide_true, decide_false, Bool.false_eq_true, if_false, Option.bind_some, Bool.true_and]
      cases rightP ps[i] <;> rfl
    · have h3' : (3 : Int) < (i : Int) := by omega
      simp only [h3, h3', decide_true, decide_false, Bool.false_eq_true, if_false, if_true, Option.bind_some, Bool.false_and]) (fun _ => by
    unfold r02_All_L1
    simp only [show ¬ (List.length ps : Int) < (List.length ps : Int) by omega, decide_false, Bool.false_eq_true, if_false])
  rw [show (((0 : Nat) : Int)) = 0 from rfl] at lp
  rw [lp]
  by_cases ha : ((List.range ps.length).all fun i => decide (i ≤ 3) && optT rightP ps[i]?) = true
  · rw [if_pos ha]
    rw [range_all] at ha
    have hall : ps.all rightP = true := by
      rw [all_range, range_all]
      intro i hi
      have := ha i hi
      rw [Bool.and_eq_true] at this
      exact this.2
    have h4 : ps.length ≤ 4 := by
      rcases Nat.lt_or_ge 4 ps.length with q | q
      · have := ha 4 q
        simp at this
      · exact q
    rw [hall, Bool.and_true]
    by_cases h0 : 0 < ps.length
    · rw [decide_eq_true (show (0 : Int) < (List.length ps : Int) by omega), decide_eq_true (show 1 ≤ ps.length ∧ ps.length ≤ 4 by omega)]
    · rw [decide_eq_false (show ¬ (0 : Int) < (List.length ps : Int) by omega), decide_eq_false (show ¬ (1 ≤ ps.length ∧ ps.length ≤ 4) by omega)]
  · rw [if_neg ha]
    by_cases h4 : 1 ≤ ps.length ∧ ps.length ≤ 4
    · have hall : ps.all rightP = false := by
        rw [Bool.eq_false_iff]
        intro hall
        rw [all_range, range_all] at hall
        refine ha (range_all.2 fun i hi => ?_)
        rw [Bool.and_eq_true]
        exact ⟨decide_eq_true (by omega), hall i hi⟩
      rw [hall, Bool.and_false]
    · rw [decide_eq_false h4]
      rfl

/-! ### What is done to the memory -/
def wordsOk (l : List Int) : Prop := ∀ x ∈ l, 0 ≤ x ∧ x < 4294967296
def actOk (mem : List Int) (w : Want) : Bool := decide (1 ≤ Want.Kind w) && (decide (Want.Kind w ≤ 3) && (decide (0 ≤ Want.At w) && decide (Want.At w < (mem.length : Int))))
def wasAt (mem : List Int) (w : Want) : Int := (mem[(Want.At w).toNat]?).getD 0
def actS (mem : List Int) (w : Want) : List Int × Int :=
  if actOk mem w = true then (if Want.Kind w = 2 ∨ (Want.Kind w = 3 ∧ wasAt mem w = Want.Old w) then mem.set (Want.At w).toNat (Want.Val w) else mem, wasAt mem w) else (mem, 0)
noncomputable def actI (mem : List Int) (w : Want) : Option (Int × List Int) :=
            if (decide ((Want.Kind w) < (1 : Int))) || ((decide ((3 : Int) < (Want.Kind w))) || ((decide ((Want.At w) < (0 : Int))) || (decide ((List.length mem : Int) ≤ (Want.At w))))) then
              some (((0 : Int), mem))
            else
              (idxO (List.length mem : Int) (Want.At w)).bind fun v28 =>
              (getO mem v28).bind fun v29 =>
              (
                if (decide ((Want.Kind w) = (2 : Int))) || ((decide ((Want.Kind w) = (3 : Int))) && (decide (v29 = (Want.Old w)))) then
                  (idxO (List.length mem : Int) (Want.At w)).bind fun v33 =>
                  (setO mem v33 (Want.Val w)).bind fun v34 =>
                  some (v34)
                else
                  some (mem) : Option (List Int)).bind fun v31 =>
              some ((v29, v31))
theorem wasAt_get {mem : List Int} {w : Want} (h0 : 0 ≤ Want.At w) (h1 : Want.At w < (mem.length : Int)) : getO mem (Want.At w) = some (wasAt mem w) := by
  rw [getO_lt h0 h1]
  unfold wasAt
  rw [List.getElem?_eq_getElem (by omega)]
  rfl
theorem actI_eq (mem : List Int) (w : Want) : actI mem w = some ((actS mem w).2, (actS mem w).1) := by
  unfold actI actS
  by_cases h : 1 ≤ Want.Kind w ∧ Want.Kind w ≤ 3 ∧ 0 ≤ Want.At w ∧ Want.At w < (mem.length : Int)
  · obtain ⟨h1, h2, h3, h4⟩ := h
    have ho : actOk mem w = true := by unfold actOk; simp only [Bool.and_eq_true, decide_eq_true_eq]; exact ⟨h1, h2, h3, h4⟩
    rw [decide_eq_false (show ¬ Want.Kind w < 1 by omega), decide_eq_false (show ¬ 3 < Want.Kind w by omega), decide_eq_false (show ¬ Want.At w < 0 by omega), decide_eq_false (show ¬ (mem.length : Int) ≤ Want.At w by omega), ho]
    simp only [Bool.or_self, Bool.false_eq_true, if_false, if_true, idxO_lt h3 h4, Option.bind_some, wasAt_get h3 h4, setO_lt h3 h4]
    by_cases hk : Want.Kind w = 2 ∨ (Want.Kind w = 3 ∧ wasAt mem w = Want.Old w)
    · have : ((decide ((Want.Kind w) = (2 : Int))) || ((decide ((Want.Kind w) = (3 : Int))) && (decide (wasAt mem w = (Want.Old w))))) = true := by
        simp only [Bool.or_eq_true, Bool.and_eq_true, decide_eq_true_eq]; exact hk
      rw [this, if_pos rfl, if_pos hk]
      rfl
    · have : ((decide ((Want.Kind w) = (2 : Int))) || ((decide ((Want.Kind w) = (3 : Int))) && (decide (wasAt mem w = (Want.Old w))))) = false := by
        rw [Bool.eq_false_iff]
        intro q
        simp only [Bool.or_eq_true, Bool.and_eq_true, decide_eq_true_eq] at q
        exact hk q
      rw [this, if_neg (by simp), if_neg hk]
      rfl
  · have ho : actOk mem w = false := by
      rw [Bool.eq_false_iff]
      intro q
      unfold actOk at q
      simp only [Bool.and_eq_true, decide_eq_true_eq] at q
      exact h q
    have hc : ((decide ((Want.Kind w) < (1 : Int))) || ((decide ((3 : Int) < (Want.Kind w))) || ((decide ((Want.At w) < (0 : Int))) || (decide ((List.length mem : Int) ≤ (Want.At w)))))) = true := by
      simp only [Bool.or_eq_true, decide_eq_true_eq]
      omega
    rw [hc, if_pos rfl, ho]
    rfl
theorem r04_With_eq {mem : List Int} (hm : mem.length ≤ 1000) {i : Int} (h0 : 0 ≤ i) (h1 : i < (mem.length : Int)) (v : Int) : r04_With mem i v = some (mem.set i.toNat v) := by
  unfold r04_With
  rw [appO_small (by simp; omega) (by omega), List.nil_append]
  simp only [Option.bind_some, idxO_lt h0 h1, setO_lt h0 h1]
theorem r04_Act_eq {mem : List Int} (hm : mem.length ≤ 1000) (w : Want) : r04_Act mem w = some (actS mem w) := by
  unfold r04_Act actS
  by_cases h : 0 ≤ Want.At w ∧ Want.At w < (mem.length : Int)
  · obtain ⟨h3, h4⟩ := h
    rw [decide_eq_false (show ¬ Want.At w < 0 by omega), decide_eq_false (show ¬ (mem.length : Int) ≤ Want.At w by omega)]
    simp only [Bool.or_self, Bool.false_eq_true, if_false, Option.bind_some, wasAt_get h3 h4, r04_With_eq hm h3 h4]
    have ho : actOk mem w = (decide (1 ≤ Want.Kind w) && decide (Want.Kind w ≤ 3)) := by
      unfold actOk
      rw [decide_eq_true h3, decide_eq_true h4]
      simp
    rw [ho]
    by_cases k1 : Want.Kind w = 1
    · simp [k1]
    · by_cases k2 : Want.Kind w = 2
      · simp [k2]
      · by_cases k3 : Want.Kind w = 3
        · by_cases ko : wasAt mem w = Want.Old w
          · simp [k3, ko]
          · simp [k3, ko]
        · have hn : (decide (1 ≤ Want.Kind w) && decide (Want.Kind w ≤ 3)) = false := by
            rw [Bool.eq_false_iff]
            intro q
            simp only [Bool.and_eq_true, decide_eq_true_eq] at q
            omega
          simp [k1, k2, k3, hn]
  · have ho : actOk mem w = false := by
      rw [Bool.eq_false_iff]
      intro q
      unfold actOk at q
      simp only [Bool.and_eq_true, decide_eq_true_eq] at q
      exact h q.2.2
    have hc : ((decide ((Want.At w) < (0 : Int))) || (decide ((List.length mem : Int) ≤ (Want.At w)))) = true := by
      simp only [Bool.or_eq_true, decide_eq_true_eq]
      omega
    rw [hc, if_pos rfl, ho]
    rfl
theorem actS_len (mem : List Int) (w : Want) : (actS mem w).1.length = mem.length := by
  unfold actS
  split
  · dsimp only
    split
    · rw [List.length_set]
    · rfl
  · rfl
theorem actS_ok {mem : List Int} (hm : wordsOk mem) {w : Want} (hv : 0 ≤ Want.Val w ∧ Want.Val w < 4294967296) : wordsOk (actS mem w).1 ∧ 0 ≤ (actS mem w).2 ∧ (actS mem w).2 < 4294967296 := by
  have hw : 0 ≤ wasAt mem w ∧ wasAt mem w < 4294967296 := by
    unfold wasAt
    cases e : mem[(Want.At w).toNat]? with
    | none => exact ⟨Int.le_refl 0, by decide⟩
    | some x => exact hm x (List.mem_of_getElem? e)
  unfold actS
  split
  · dsimp only
    refine ⟨?_, hw⟩
    split
    · intro x hx
      rcases List.mem_or_eq_of_mem_set hx with q | q
      · exact hm x q
      · rw [q]; exact hv
    · exact hm
  · exact ⟨hm, z32⟩

end Go.Proofs.Ytihchahfnhoapaa
