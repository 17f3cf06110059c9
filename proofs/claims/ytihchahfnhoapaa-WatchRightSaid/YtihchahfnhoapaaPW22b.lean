/- Layer 22: systems that may be, by the program and by the document. -/
import Derived.Test.YtihchahfnhoapaaPW22
set_option linter.unusedSimpArgs false
set_option linter.unusedVariables false
namespace Go.Proofs.Ytihchahfnhoapaa
open Go.SX

/-- Is any of them not so? -/
theorem contains_loop {f : Int → Option (Int ⊕ Unit ⊕ Int)} {n : Nat} (ok : Nat → Bool) (step : ∀ i, i < n → f (i : Int) = some (if ok i = true then .inl ((i + 1 : Nat) : Int) else .inr (.inr (i : Int)))) (out : f (n : Int) = some (.inr (.inl ()))) :
    ((orExit (loopD f (0 : Int)) fun _ => some (-1 : Int)).bind fun v => some (decide ((0 : Int) ≤ v))) = some (!(List.range n).all ok) := by
  have lp := loop_first (f := f) (n := n) (fun i => (i : Int)) ok (e := (Sum.inl () : Unit ⊕ Int)) (r := fun i => .inr (i : Int)) (fun i hi _ => step i hi) (fun _ => out)
  rw [show (((0 : Nat) : Int)) = 0 from rfl] at lp
  have f1 := (firstI_facts ok n).1
  have f2 := firstI_all (ok := ok) (n := n)
  rw [← range_all] at f2
  rw [lp]
  by_cases ha : (List.range n).all ok = true
  · have := f2.2 ha
    rw [if_neg (show ¬ firstI ok n < n by omega), ha]
    rfl
  · have : firstI ok n < n := by
      rcases Nat.lt_or_ge (firstI ok n) n with q | q
      · exact q
      · exact absurd (f2.1 (by omega)) ha
    rw [if_pos this, Bool.eq_false_iff.2 ha]
    have h0 : (0 : Int) ≤ ((firstI ok n : Nat) : Int) := by omega
    simp only [orExit_inr, Option.bind_some, h0, decide_true, Bool.not_false]

/-! ### The pool -/
def poolB (p : Pool) : Bool := decide ((Pool.Frames p).length ≤ 64) && (Pool.Frames p).all fun b => decide (b.length = 19)
theorem pool_Right_eq (p : Pool) (hl : (Pool.Frames p).length ≤ 1000) : pool_Right p = some (poolB p) := by
  unfold pool_Right poolB
  obtain ⟨fr, hfr⟩ : ∃ fr, fr = Pool.Frames p := ⟨_, rfl⟩
  rw [← hfr] at hl ⊢
  have lp := contains_loop (f := pool_Right_L1 fr (List.length fr : Int)) (n := fr.length) (fun i => optT (fun b => decide (b.length = 19)) fr[i]?) (fun i hi => by
    have hlt : (i : Int) < (List.length fr : Int) := by omega
    rw [optT_in hi]
    unfold pool_Right_L1 pool_Right_1
    simp only [hlt, decide_true, if_true, getO_in hi, Option.bind_some, w64_succ (show i < 4611686018427387904 by omega)]
    by_cases h : fr[i].length = 19
    · have h' : (fr[i].length : Int) = 19 := by omega
      simp only [h, h', decide_true, Bool.not_true, Bool.false_eq_true, if_false, if_true]
      rfl
    · have h' : ¬ (fr[i].length : Int) = 19 := by omega
      simp only [h, h', decide_false, Bool.not_false, Bool.false_eq_true, if_false, if_true]) (by
    unfold pool_Right_L1
    simp only [show ¬ (List.length fr : Int) < (List.length fr : Int) by omega, decide_false, Bool.false_eq_true, if_false])
  rw [← all_range] at lp
  by_cases h : fr.length ≤ 64
  · have h' : (List.length fr : Int) ≤ 64 := by omega
    simp only [h, h', decide_true, if_true, Bool.true_and]
    simp only [lp, Option.bind_some, Bool.not_not]
  · have h' : ¬ (List.length fr : Int) ≤ 64 := by omega
    simp only [h, h', decide_false, Bool.false_eq_true, if_false, Bool.false_and, Option.bind_some]
theorem r06_Right_eq (p : Pool) (hl : (Pool.Frames p).length ≤ 1000) : r06_Right p = some (poolB p) := by
  unfold r06_Right poolB
  obtain ⟨fr, hfr⟩ : ∃ fr, fr = Pool.Frames p := ⟨_, rfl⟩
  have lp := check_all (f := r06_Right_L1 p) (n := fr.length) (g := fun _ => some true) (fun i => (i : Int)) (fun i => decide (i ≤ 63) && optT (fun b => decide (b.length = 19)) fr[i]?) (fun i hi _ => by
    have hlt : (i : Int) < (List.length fr : Int) := by omega
    rw [optT_in hi]
    unfold r06_Right_L1
    rw [← hfr]
    simp only [hlt, decide_true, if_true, getO_in hi, Option.bind_some, w64_succ (show i < 4611686018427387904 by rw [← hfr] at hl; omega)]
    by_cases h3 : i ≤ 63
    · have h3' : ¬ (63 : Int) < (i : Int) := by omega
      by_cases h : fr[i].length = 19
      · have h' : (fr[i].length : Int) = 19 := by omega
        simp only [h, h', h3, h3', decide_true, decide_false, Bool.not_true, Bool.false_eq_true, if_false, if_true, Option.bind_some, Bool.and_self]
        rfl
      · have h' : ¬ (fr[i].length : Int) = 19 := by omega
        simp only [h, h', h3, h3', decide_true, decide_false, Bool.not_false, Bool.false_eq_true, if_false, if_true, Option.bind_some, Bool.and_false]
    · have h3' : (63 : Int) < (i : Int) := by omega
      simp only [h3, h3', decide_true, decide_false, Bool.false_eq_true, if_false, if_true, Option.bind_some, Bool.false_and]) (fun _ => by
    unfold r06_Right_L1
    rw [← hfr]
    simp only [show ¬ (List.length fr : Int) < (List.length fr : Int) by omega, decide_false, Bool.false_eq_true, if_false])
  rw [show (((0 : Nat) : Int)) = 0 from rfl] at lp
  rw [lp, ← hfr]
  by_cases ha : ((List.range fr.length).all fun i => decide (i ≤ 63) && optT (fun b : List Int => decide (b.length = 19)) fr[i]?) = true
  · rw [if_pos ha]
    rw [range_all] at ha
    have h1 : (fr.all fun b => decide (b.length = 19)) = true := by
      rw [all_range, range_all]
      intro i hi
      have := ha i hi
      rw [Bool.and_eq_true] at this
      exact this.2
    have h2 : fr.length ≤ 64 := by
      rcases Nat.lt_or_ge 64 fr.length with q | q
      · have := ha 64 q
        simp at this
      · exact q
    rw [h1, decide_eq_true h2]
    rfl
  · rw [if_neg ha]
    by_cases h2 : fr.length ≤ 64
    · have h1 : (fr.all fun b => decide (b.length = 19)) = false := by
        rw [Bool.eq_false_iff]
        intro q
        rw [all_range, range_all] at q
        refine ha (range_all.2 fun i hi => ?_)
        rw [Bool.and_eq_true]
        exact ⟨decide_eq_true (by omega), q i hi⟩
      rw [h1, Bool.and_false]
    · rw [decide_eq_false h2]
      rfl

/-! ### An entry -/
def mayB (e : Entry) (n : Nat) : Bool := decide (1 ≤ n ∧ n ≤ 4 ∧ (Entry.Share e).length = n ∧ 0 ≤ Entry.Owner e ∧ Entry.Owner e ≤ (n : Int)) && (decide (Entry.Owner e = 0) || !((Entry.Share e)[(Entry.Owner e - 1).toNat]?.getD false))
theorem may_cond (e : Entry) (n : Nat) : ((decide ((n : Int) < (1 : Int))) || ((decide ((4 : Int) < (n : Int))) || ((!decide ((List.length (Entry.Share e) : Int) = (n : Int))) || ((decide ((Entry.Owner e) < (0 : Int))) || (decide ((n : Int) < (Entry.Owner e))))))) = !decide (1 ≤ n ∧ n ≤ 4 ∧ (Entry.Share e).length = n ∧ 0 ≤ Entry.Owner e ∧ Entry.Owner e ≤ (n : Int)) := by
  rw [Bool.eq_iff_iff]
  simp only [Bool.or_eq_true, decide_eq_true_eq, Bool.not_eq_true', decide_eq_false_iff_not]
  omega
theorem direc_May_eq (e : Entry) (n : Nat) : direc_May e (n : Int) = some (mayB e n) := by
  unfold direc_May mayB
  rw [may_cond]
  by_cases h : 1 ≤ n ∧ n ≤ 4 ∧ (Entry.Share e).length = n ∧ 0 ≤ Entry.Owner e ∧ Entry.Owner e ≤ (n : Int)
  · rw [decide_eq_true h]
    simp only [Bool.not_true, Bool.false_eq_true, if_false, Bool.true_and]
    by_cases h0 : Entry.Owner e = 0
    · simp only [h0, decide_true, if_true, Option.bind_some, Bool.true_or]
    · have hw : w64 (Entry.Owner e - 1) = Entry.Owner e - 1 := w64_id (by omega) (by omega)
      have hlt : (Entry.Owner e - 1).toNat < (Entry.Share e).length := by omega
      have hg : getO (Entry.Share e) (Entry.Owner e - 1) = some ((Entry.Share e)[(Entry.Owner e - 1).toNat]) := getO_lt (by omega) (by omega)
      have hd : (Entry.Share e)[(Entry.Owner e - 1).toNat]?.getD false = (Entry.Share e)[(Entry.Owner e - 1).toNat] := by rw [List.getElem?_eq_getElem hlt]; rfl
      simp only [h0, decide_false, Bool.false_eq_true, if_false, hw, hg, hd, Option.bind_some, Bool.false_or]
  · rw [decide_eq_false h]
    rfl
theorem r09_May_eq (e : Entry) (n : Nat) : r09_May e (n : Int) = some (mayB e n) := by
  unfold r09_May mayB
  rw [may_cond]
  by_cases h : 1 ≤ n ∧ n ≤ 4 ∧ (Entry.Share e).length = n ∧ 0 ≤ Entry.Owner e ∧ Entry.Owner e ≤ (n : Int)
  · rw [decide_eq_true h]
    simp only [Bool.not_true, Bool.false_eq_true, if_false, Bool.true_and]
    have lp := check_all (f := r09_May_L1 e (n : Int)) (n := n) (g := fun _ => some true) (fun i => (i : Int)) (fun i => !((Entry.Share e)[i]?.getD false && decide (Entry.Owner e = ((i + 1 : Nat) : Int)))) (fun i hi _ => by
      have hlt : (i : Int) < (n : Int) := by omega
      have hil : i < (Entry.Share e).length := by omega
      have hd : (Entry.Share e)[i]?.getD false = (Entry.Share e)[i] := by rw [List.getElem?_eq_getElem hil]; rfl
      unfold r09_May_L1
      simp only [hlt, decide_true, if_true, getO_in hil, Option.bind_some, w64_succ (show i < 4611686018427387904 by omega), hd]
      cases (Entry.Share e)[i]
      · rfl
      · simp only [if_true, Option.bind_some, Bool.true_and]
        cases decide (Entry.Owner e = ((i + 1 : Nat) : Int)) <;> rfl) (fun _ => by
      unfold r09_May_L1
      simp only [show ¬ (n : Int) < (n : Int) by omega, decide_false, Bool.false_eq_true, if_false])
    rw [show (((0 : Nat) : Int)) = 0 from rfl] at lp
    rw [lp]
    by_cases h0 : Entry.Owner e = 0
    · have ha : ((List.range n).all fun i => !((Entry.Share e)[i]?.getD false && decide (Entry.Owner e = ((i + 1 : Nat) : Int)))) = true := by
        rw [range_all]
        intro i hi
        rw [decide_eq_false (show ¬ Entry.Owner e = ((i + 1 : Nat) : Int) by omega), Bool.and_false]
        rfl
      rw [if_pos ha, decide_eq_true h0]
      rfl
    · rw [decide_eq_false h0, Bool.false_or]
      obtain ⟨o, ho⟩ : ∃ o : Nat, Entry.Owner e = ((o + 1 : Nat) : Int) := ⟨(Entry.Owner e - 1).toNat, by omega⟩
      have e1 : (Entry.Owner e - 1).toNat = o := by omega
      rw [e1]
      cases hs : (Entry.Share e)[o]?.getD false
      · have ha : ((List.range n).all fun i => !((Entry.Share e)[i]?.getD false && decide (Entry.Owner e = ((i + 1 : Nat) : Int)))) = true := by
          rw [range_all]
          intro i hi
          by_cases hio : i = o
          · rw [hio, hs]; rfl
          · rw [decide_eq_false (show ¬ Entry.Owner e = ((i + 1 : Nat) : Int) by omega), Bool.and_false]
            rfl
        rw [if_pos ha]
        rfl
      · have ha : ¬ ((List.range n).all fun i => !((Entry.Share e)[i]?.getD false && decide (Entry.Owner e = ((i + 1 : Nat) : Int)))) = true := by
          rw [range_all]
          intro q
          have := q o (by omega)
          rw [hs, decide_eq_true ho] at this
          cases this
        rw [if_neg ha]
        rfl
  · rw [decide_eq_false h]
    rfl

/-! ### A system -/
def waitB (h : Nat) (w : Wait) : Bool := (decide (0 ≤ Wait.Line w) && decide (Wait.Line w ≤ (h : Int))) && ((decide (0 ≤ Wait.Need w) && decide (Wait.Need w ≤ 255)) && (decide (0 ≤ Wait.Got w) && decide (Wait.Got w ≤ 255)))
def stB (s : Int) : Bool := decide (0 ≤ s) && decide (s ≤ 4)
def stateAt (p : Proto) (n : Nat) : List Int := (Proto.State p)[n]?.getD []
def valAt (p : Proto) (n : Nat) : List Int := (Proto.Val p)[n]?.getD []
def coreB (p : Proto) (n : Nat) : Bool := optT (waitB (Proto.Home p).length) (Proto.Wait p)[n]? && (stateAt p n).all stB
def lineB (p : Proto) (l : Nat) : Bool := optT (fun e => mayB e (Proto.Wait p).length) (Proto.Dir p)[l]? && optT (fun b => decide (0 ≤ b) && decide (b ≤ ((Proto.Wait p).length : Int))) (Proto.Busy p)[l]?
def sizesB (p : Proto) : Bool := decide (1 ≤ (Proto.Wait p).length ∧ (Proto.Wait p).length ≤ 4 ∧ 1 ≤ (Proto.Home p).length ∧ (Proto.Home p).length ≤ 16 ∧ (Proto.State p).length = (Proto.Wait p).length ∧ (Proto.Val p).length = (Proto.Wait p).length ∧ (Proto.Dir p).length = (Proto.Home p).length ∧ (Proto.Busy p).length = (Proto.Home p).length)
def rowB (p : Proto) (n : Nat) : Bool := decide ((stateAt p n).length = (Proto.Home p).length) && decide ((valAt p n).length = (Proto.Home p).length)
def rightB (p : Proto) : Bool := (sizesB p && (List.range (Proto.Wait p).length).all (rowB p)) && (poolB (Proto.Pool p) && ((List.range (Proto.Wait p).length).all (coreB p) && (List.range (Proto.Home p).length).all (lineB p)))

theorem formed_eq {p : Proto} (hs : ShortP p) : proto_formed p = some (sizesB p && (List.range (Proto.Wait p).length).all (rowB p)) := by
  have e1 := rows_eq (Proto.State p) (Proto.Wait p).length (Proto.Home p).length (by have := hs.state; omega)
  have e2 := rows2_eq (Proto.Val p) (Proto.Wait p).length (Proto.Home p).length (by have := hs.val; omega)
  unfold proto_formed
  simp only [e1, e2, Option.bind_some]
  by_cases hz : sizesB p = true
  · rw [hz, Bool.true_and]
    unfold sizesB at hz
    have z := of_decide_eq_true hz
    obtain ⟨z1, z2, z3, z4, z5, z6, z7, z8⟩ := z
    have hc : ((decide ((List.length (Proto.Wait p) : Int) < (1 : Int))) || ((decide ((4 : Int) < (List.length (Proto.Wait p) : Int))) || ((decide ((List.length (Proto.Home p) : Int) < (1 : Int))) || (decide ((16 : Int) < (List.length (Proto.Home p) : Int)))))) = false := by
      rw [Bool.eq_false_iff]
      simp only [ne_eq, Bool.or_eq_true, decide_eq_true_eq]
      omega
    have h3 : (List.length (Proto.Dir p) : Int) = (List.length (Proto.Home p) : Int) := by omega
    have h4 : (List.length (Proto.Busy p) : Int) = (List.length (Proto.Home p) : Int) := by omega
    have hr : (List.range (Proto.Wait p).length).all (rowB p) = (rowsB (Proto.State p) (Proto.Wait p).length (Proto.Home p).length && rowsB (Proto.Val p) (Proto.Wait p).length (Proto.Home p).length) := by
      unfold rowsB
      rw [decide_eq_true z5, decide_eq_true z6, Bool.true_and, Bool.true_and, all_range (l := Proto.State p), all_range (l := Proto.Val p), z5, z6, Bool.eq_iff_iff, Bool.and_eq_true, range_all, range_all, range_all]
      constructor
      · intro q
        constructor
        · intro i hi
          have := q i hi
          unfold rowB stateAt at this
          rw [Bool.and_eq_true] at this
          have t := this.1
          have hil : i < (Proto.State p).length := by omega
          rw [List.getElem?_eq_getElem hil] at t ⊢
          exact t
        · intro i hi
          have := q i hi
          unfold rowB valAt at this
          rw [Bool.and_eq_true] at this
          have t := this.2
          have hil : i < (Proto.Val p).length := by omega
          rw [List.getElem?_eq_getElem hil] at t ⊢
          exact t
      · rintro ⟨q1, q2⟩ i hi
        have t1 := q1 i hi
        have t2 := q2 i hi
        have hil : i < (Proto.State p).length := by omega
        have hil2 : i < (Proto.Val p).length := by omega
        unfold rowB stateAt valAt
        rw [List.getElem?_eq_getElem hil] at t1 ⊢
        rw [List.getElem?_eq_getElem hil2] at t2 ⊢
        rw [Bool.and_eq_true]
        exact ⟨t1, t2⟩
    rw [hc, hr]
    simp only [Bool.false_eq_true, if_false, h3, h4, decide_true]
    cases rowsB (Proto.State p) (Proto.Wait p).length (Proto.Home p).length
    · rfl
    · cases rowsB (Proto.Val p) (Proto.Wait p).length (Proto.Home p).length <;> rfl
  · rw [Bool.eq_false_iff.2 hz, Bool.false_and]
    by_cases hc : ((decide ((List.length (Proto.Wait p) : Int) < (1 : Int))) || ((decide ((4 : Int) < (List.length (Proto.Wait p) : Int))) || ((decide ((List.length (Proto.Home p) : Int) < (1 : Int))) || (decide ((16 : Int) < (List.length (Proto.Home p) : Int)))))) = true
    · rw [if_pos hc]
    · rw [if_neg hc]
      simp only [Bool.or_eq_true, decide_eq_true_eq] at hc
      cases h1 : rowsB (Proto.State p) (Proto.Wait p).length (Proto.Home p).length
      · rfl
      cases h2 : rowsB (Proto.Val p) (Proto.Wait p).length (Proto.Home p).length
      · rfl
      have f1 := (rowsB_facts h1).1
      have f2 := (rowsB_facts h2).1
      by_cases h3 : (List.length (Proto.Dir p) : Int) = (List.length (Proto.Home p) : Int)
      · have h4 : ¬ (List.length (Proto.Busy p) : Int) = (List.length (Proto.Home p) : Int) := fun h4 => hz (by
          unfold sizesB
          exact decide_eq_true (by omega))
        simp only [if_true, h3, h4, decide_true, decide_false, Option.bind_some]
      · simp only [if_true, h3, decide_false, Option.bind_some, Bool.false_eq_true, if_false]

theorem within_le {a b : Int} : proto_within a (b + 1) = (decide (0 ≤ a) && decide (a ≤ b)) := by
  unfold proto_within
  congr 1
  rw [Bool.eq_iff_iff, decide_eq_true_eq, decide_eq_true_eq]
  omega
theorem proto_Right_eq {p : Proto} (hs : ShortP p) : proto_Right p = some (rightB p) := by
  unfold proto_Right rightB
  rw [formed_eq hs, pool_Right_eq _ (by have := hs.frames; omega)]
  cases hz : (sizesB p && (List.range (Proto.Wait p).length).all (rowB p))
  · rfl
  rw [Bool.and_eq_true] at hz
  have z := of_decide_eq_true hz.1
  obtain ⟨z1, z2, z3, z4, z5, z6, z7, z8⟩ := z
  cases poolB (Proto.Pool p)
  · rfl
  simp only [Option.bind_some, Bool.not_true, Bool.false_eq_true, if_false, Bool.true_and]
  have e5 : w64 ((List.length (Proto.Home p) : Int) + 1) = (List.length (Proto.Home p) : Int) + 1 := w64_id (by omega) (by omega)
  have e3 : w64 ((List.length (Proto.Wait p) : Int) + 1) = (List.length (Proto.Wait p) : Int) + 1 := w64_id (by omega) (by omega)
  have l3 := fun g => check_all (f := proto_Right_L3 p (List.length (Proto.Home p) : Int) (Proto.Wait p) (List.length (Proto.Wait p) : Int)) (n := (Proto.Wait p).length) (g := g) (fun i => (i : Int)) (coreB p) (fun i hi _ => by
    have hlt : (i : Int) < (List.length (Proto.Wait p) : Int) := by omega
    have his : i < (Proto.State p).length := by omega
    obtain ⟨row, hr⟩ : ∃ row, row = (Proto.State p)[i] := ⟨_, rfl⟩
    have hsa : stateAt p i = row := by unfold stateAt; rw [List.getElem?_eq_getElem his, hr]; rfl
    have hrl : row.length ≤ 1000 := by
      have := range_all.1 hz.2 i hi
      unfold rowB at this
      rw [Bool.and_eq_true, hsa] at this
      have := of_decide_eq_true this.1
      omega
    have l2 := contains_loop (f := proto_Right_L2 row (List.length row : Int)) (n := row.length) (fun j => optT stB row[j]?) (fun j hj => by
      have hlt : (j : Int) < (List.length row : Int) := by omega
      rw [optT_in hj]
      have h5 : proto_Right_1 row[j] = !stB row[j] := by
        unfold proto_Right_1 stB
        rw [show (5 : Int) = 4 + 1 from rfl, within_le]
      unfold proto_Right_L2
      simp only [hlt, decide_true, if_true, getO_in hj, Option.bind_some, h5, w64_succ (show j < 4611686018427387904 by omega)]
      cases stB row[j] <;> rfl) (by
      unfold proto_Right_L2
      simp only [show ¬ (List.length row : Int) < (List.length row : Int) by omega, decide_false, Bool.false_eq_true, if_false])
    rw [← all_range] at l2
    have hw : ((!(proto_within (Wait.Line (Proto.Wait p)[i]) (w64 ((List.length (Proto.Home p) : Int) + (1 : Int))))) || ((!(proto_within (Wait.Need (Proto.Wait p)[i]) (256 : Int))) || (!(proto_within (Wait.Got (Proto.Wait p)[i]) (256 : Int))))) = !waitB (Proto.Home p).length (Proto.Wait p)[i] := by
      rw [e5, show (256 : Int) = 255 + 1 from rfl, within_le, within_le, within_le]
      unfold waitB
      cases (decide (0 ≤ Wait.Line (Proto.Wait p)[i]) && decide (Wait.Line (Proto.Wait p)[i] ≤ ((Proto.Home p).length : Int))) <;> cases (decide (0 ≤ Wait.Need (Proto.Wait p)[i]) && decide (Wait.Need (Proto.Wait p)[i] ≤ 255)) <;> cases (decide (0 ≤ Wait.Got (Proto.Wait p)[i]) && decide (Wait.Got (Proto.Wait p)[i] ≤ 255)) <;> rfl
    unfold proto_Right_L3 coreB
    rw [optT_in hi, hsa]
    simp only [hlt, decide_true, if_true, getO_in hi, getO_in his, Option.bind_some, hw, ← hr, w64_succ (show i < 4611686018427387904 by omega)]
    rw [l2]
    cases waitB (Proto.Home p).length (Proto.Wait p)[i]
    · rfl
    · simp only [Bool.not_true, Bool.false_eq_true, if_false, Option.bind_some, Bool.true_and]
      cases row.all stB <;> rfl) (fun _ => by
    unfold proto_Right_L3
    simp only [show ¬ (List.length (Proto.Wait p) : Int) < (List.length (Proto.Wait p) : Int) by omega, decide_false, Bool.false_eq_true, if_false])
  have l1 := check_all (f := proto_Right_L1 p (List.length (Proto.Wait p) : Int) (Proto.Dir p) (List.length (Proto.Dir p) : Int)) (n := (Proto.Home p).length) (g := fun _ => some true) (fun i => (i : Int)) (lineB p) (fun i hi _ => by
    have hlt : (i : Int) < (List.length (Proto.Dir p) : Int) := by omega
    have hid : i < (Proto.Dir p).length := by omega
    have hib : i < (Proto.Busy p).length := by omega
    unfold proto_Right_L1 lineB
    rw [optT_in hid, optT_in hib]
    simp only [hlt, decide_true, if_true, getO_in hid, getO_in hib, direc_May_eq, Option.bind_some, e3, within_le, w64_succ (show i < 4611686018427387904 by omega)]
    cases mayB (Proto.Dir p)[i] (Proto.Wait p).length
    · rfl
    · simp only [Bool.not_true, Bool.false_eq_true, if_false, Option.bind_some, Bool.true_and]
      cases (decide (0 ≤ (Proto.Busy p)[i]) && decide ((Proto.Busy p)[i] ≤ ((Proto.Wait p).length : Int))) <;> rfl) (fun _ => by
    unfold proto_Right_L1
    have : ¬ ((Proto.Home p).length : Int) < (List.length (Proto.Dir p) : Int) := by omega
    simp only [this, decide_false, Bool.false_eq_true, if_false])
  rw [show (((0 : Nat) : Int)) = 0 from rfl] at l1
  have l3' := l3 (fun _ : Unit => orExit (loopD (proto_Right_L1 p (List.length (Proto.Wait p) : Int) (Proto.Dir p) (List.length (Proto.Dir p) : Int)) (0 : Int)) fun _ : Unit => some true)
  rw [show (((0 : Nat) : Int)) = 0 from rfl] at l3'
  rw [l3', l1]
  cases (List.range (Proto.Wait p).length).all (coreB p)
  · rfl
  · cases (List.range (Proto.Home p).length).all (lineB p) <;> rfl

theorem r10_Right_eq {p : Proto} (hs : ShortP p) : r10_Right p = some (rightB p) := by
  unfold r10_Right rightB
  rw [r06_Right_eq _ (by have := hs.frames; omega)]
  have hcond : (
    if decide ((List.length (Proto.Wait p) : Int) < (1 : Int)) then
      some (true)
    else
      if decide ((4 : Int) < (List.length (Proto.Wait p) : Int)) then
        some (true)
      else
        if decide ((List.length (Proto.Home p) : Int) < (1 : Int)) then
          some (true)
        else
          if decide ((16 : Int) < (List.length (Proto.Home p) : Int)) then
            some (true)
          else
            if !decide ((List.length (Proto.State p) : Int) = (List.length (Proto.Wait p) : Int)) then
              some (true)
            else
              if !decide ((List.length (Proto.Val p) : Int) = (List.length (Proto.Wait p) : Int)) then
                some (true)
              else
                if !decide ((List.length (Proto.Dir p) : Int) = (List.length (Proto.Home p) : Int)) then
                  some (true)
                else
                  if !decide ((List.length (Proto.Busy p) : Int) = (List.length (Proto.Home p) : Int)) then
                    some (true)
                  else
                    (some (poolB (Proto.Pool p))).bind fun v22 =>
                    some ((!v22)) : Option Bool) = some (!(sizesB p && poolB (Proto.Pool p))) := by
    have no : ¬ (1 ≤ (Proto.Wait p).length ∧ (Proto.Wait p).length ≤ 4 ∧ 1 ≤ (Proto.Home p).length ∧ (Proto.Home p).length ≤ 16 ∧ (Proto.State p).length = (Proto.Wait p).length ∧ (Proto.Val p).length = (Proto.Wait p).length ∧ (Proto.Dir p).length = (Proto.Home p).length ∧ (Proto.Busy p).length = (Proto.Home p).length) → sizesB p = false := fun q => decide_eq_false q
    have yes : (1 ≤ (Proto.Wait p).length ∧ (Proto.Wait p).length ≤ 4 ∧ 1 ≤ (Proto.Home p).length ∧ (Proto.Home p).length ≤ 16 ∧ (Proto.State p).length = (Proto.Wait p).length ∧ (Proto.Val p).length = (Proto.Wait p).length ∧ (Proto.Dir p).length = (Proto.Home p).length ∧ (Proto.Busy p).length = (Proto.Home p).length) → sizesB p = true := fun q => decide_eq_true q
    by_cases c1 : (List.length (Proto.Wait p) : Int) < 1
    · rw [decide_eq_true c1, no (by omega)]; rfl
    rw [decide_eq_false c1]
    by_cases c2 : (4 : Int) < (List.length (Proto.Wait p) : Int)
    · rw [decide_eq_true c2, no (by omega)]; rfl
    rw [decide_eq_false c2]
    by_cases c3 : (List.length (Proto.Home p) : Int) < 1
    · rw [decide_eq_true c3, no (by omega)]; rfl
    rw [decide_eq_false c3]
    by_cases c4 : (16 : Int) < (List.length (Proto.Home p) : Int)
    · rw [decide_eq_true c4, no (by omega)]; rfl
    rw [decide_eq_false c4]
    by_cases c5 : (List.length (Proto.State p) : Int) = (List.length (Proto.Wait p) : Int)
    · rw [decide_eq_true c5]
      by_cases c6 : (List.length (Proto.Val p) : Int) = (List.length (Proto.Wait p) : Int)
      · rw [decide_eq_true c6]
        by_cases c7 : (List.length (Proto.Dir p) : Int) = (List.length (Proto.Home p) : Int)
        · rw [decide_eq_true c7]
          by_cases c8 : (List.length (Proto.Busy p) : Int) = (List.length (Proto.Home p) : Int)
          · rw [decide_eq_true c8, yes (by omega)]; rfl
          · rw [decide_eq_false c8, no (by omega)]; rfl
        · rw [decide_eq_false c7, no (by omega)]; rfl
      · rw [decide_eq_false c6, no (by omega)]; rfl
    · rw [decide_eq_false c5, no (by omega)]; rfl
  simp only [Option.bind_some] at hcond ⊢
  rw [hcond]
  simp only [Option.bind_some]
  cases hz : sizesB p
  · rfl
  have z := of_decide_eq_true hz
  obtain ⟨z1, z2, z3, z4, z5, z6, z7, z8⟩ := z
  cases poolB (Proto.Pool p)
  · simp
  simp only [Bool.and_self, Bool.not_true, Bool.false_eq_true, if_false, Bool.true_and]
  have l3 := fun g => check_all (f := r10_Right_L3 p (List.length (Proto.Wait p) : Int) (List.length (Proto.Home p) : Int)) (n := (Proto.Wait p).length) (g := g) (fun i => (i : Int)) (fun i => rowB p i && coreB p i) (fun i hi _ => by
    have hlt : (i : Int) < (List.length (Proto.Wait p) : Int) := by omega
    have his : i < (Proto.State p).length := by omega
    have hiv : i < (Proto.Val p).length := by omega
    obtain ⟨row, hr⟩ : ∃ row, row = (Proto.State p)[i] := ⟨_, rfl⟩
    obtain ⟨vrow, hvr⟩ : ∃ row, row = (Proto.Val p)[i] := ⟨_, rfl⟩
    have hsa : stateAt p i = row := by unfold stateAt; rw [List.getElem?_eq_getElem his, hr]; rfl
    have hva : valAt p i = vrow := by unfold valAt; rw [List.getElem?_eq_getElem hiv, hvr]; rfl
    have hgs : getO (Proto.State p) (i : Int) = some row := by rw [getO_in his, hr]
    have hgv : getO (Proto.Val p) (i : Int) = some vrow := by rw [getO_in hiv, hvr]
    unfold r10_Right_L3 coreB rowB
    rw [optT_in hi, hsa, hva]
    simp only [hlt, decide_true, if_true, getO_in hi, hgs, hgv, Option.bind_some, w64_succ (show i < 4611686018427387904 by omega)]
    by_cases c1 : row.length = (Proto.Home p).length
    · have c1' : (row.length : Int) = ((Proto.Home p).length : Int) := by omega
      by_cases c2 : vrow.length = (Proto.Home p).length
      · have c2' : (vrow.length : Int) = ((Proto.Home p).length : Int) := by omega
        have hcond : (
          if decide ((Wait.Line (Proto.Wait p)[i]) < (0 : Int)) then
            some (true)
          else
            if decide ((List.length (Proto.Home p) : Int) < (Wait.Line (Proto.Wait p)[i])) then
              some (true)
            else
              if decide ((Wait.Need (Proto.Wait p)[i]) < (0 : Int)) then
                some (true)
              else
                if decide ((255 : Int) < (Wait.Need (Proto.Wait p)[i])) then
                  some (true)
                else
                  if decide ((Wait.Got (Proto.Wait p)[i]) < (0 : Int)) then
                    some (true)
                  else
                    some ((decide ((255 : Int) < (Wait.Got (Proto.Wait p)[i])))) : Option Bool) = some (!waitB (Proto.Home p).length (Proto.Wait p)[i]) := by
          unfold waitB
          by_cases d1 : Wait.Line (Proto.Wait p)[i] < 0
          · rw [decide_eq_true d1, decide_eq_false (show ¬ 0 ≤ Wait.Line (Proto.Wait p)[i] by omega)]; rfl
          rw [decide_eq_false d1, decide_eq_true (show 0 ≤ Wait.Line (Proto.Wait p)[i] by omega)]
          by_cases d2 : ((Proto.Home p).length : Int) < Wait.Line (Proto.Wait p)[i]
          · rw [decide_eq_true d2, decide_eq_false (show ¬ Wait.Line (Proto.Wait p)[i] ≤ ((Proto.Home p).length : Int) by omega)]; rfl
          rw [decide_eq_false d2, decide_eq_true (show Wait.Line (Proto.Wait p)[i] ≤ ((Proto.Home p).length : Int) by omega)]
          by_cases d3 : Wait.Need (Proto.Wait p)[i] < 0
          · rw [decide_eq_true d3, decide_eq_false (show ¬ 0 ≤ Wait.Need (Proto.Wait p)[i] by omega)]; rfl
          rw [decide_eq_false d3, decide_eq_true (show 0 ≤ Wait.Need (Proto.Wait p)[i] by omega)]
          by_cases d4 : 255 < Wait.Need (Proto.Wait p)[i]
          · rw [decide_eq_true d4, decide_eq_false (show ¬ Wait.Need (Proto.Wait p)[i] ≤ 255 by omega)]; rfl
          rw [decide_eq_false d4, decide_eq_true (show Wait.Need (Proto.Wait p)[i] ≤ 255 by omega)]
          by_cases d5 : Wait.Got (Proto.Wait p)[i] < 0
          · rw [decide_eq_true d5, decide_eq_false (show ¬ 0 ≤ Wait.Got (Proto.Wait p)[i] by omega)]; rfl
          rw [decide_eq_false d5, decide_eq_true (show 0 ≤ Wait.Got (Proto.Wait p)[i] by omega)]
          by_cases d6 : 255 < Wait.Got (Proto.Wait p)[i]
          · rw [decide_eq_true d6, decide_eq_false (show ¬ Wait.Got (Proto.Wait p)[i] ≤ 255 by omega)]; rfl
          · rw [decide_eq_false d6, decide_eq_true (show Wait.Got (Proto.Wait p)[i] ≤ 255 by omega)]; rfl
        have l2 := loop_check (f := r10_Right_L2 p (List.length (Proto.Home p) : Int) (i : Int)) (n := row.length) (e := (Sum.inl () : Unit ⊕ Int ⊕ Unit ⊕ Bool)) (r := .inr (.inr (.inr false))) (fun j => (j : Int)) (fun j => optT stB row[j]?) (fun j hj _ => by
          have hlt : (j : Int) < (List.length (Proto.Home p) : Int) := by omega
          rw [optT_in hj]
          unfold r10_Right_L2 stB
          simp only [hlt, decide_true, if_true, hgs, getO_in hj, Option.bind_some, w64_succ (show j < 4611686018427387904 by omega)]
          by_cases s1 : row[j] < 0
          · rw [decide_eq_true s1, decide_eq_false (show ¬ 0 ≤ row[j] by omega)]; rfl
          rw [decide_eq_false s1, decide_eq_true (show 0 ≤ row[j] by omega)]
          by_cases s2 : 4 < row[j]
          · rw [decide_eq_true s2, decide_eq_false (show ¬ row[j] ≤ 4 by omega)]; rfl
          · rw [decide_eq_false s2, decide_eq_true (show row[j] ≤ 4 by omega)]; rfl) (fun _ => by
          unfold r10_Right_L2
          have : ¬ (row.length : Int) < (List.length (Proto.Home p) : Int) := by omega
          simp only [this, decide_false, Bool.false_eq_true, if_false])
        rw [show (((0 : Nat) : Int)) = 0 from rfl, ← all_range] at l2
        simp only [c1, c2, c1', c2', decide_true, Bool.not_true, Bool.false_eq_true, if_false, hcond, Option.bind_some, l2, Bool.true_and]
        cases waitB (Proto.Home p).length (Proto.Wait p)[i]
        · rfl
        · cases row.all stB <;> rfl
      · have c2' : ¬ (vrow.length : Int) = ((Proto.Home p).length : Int) := by omega
        simp only [c1, c2, c1', c2', decide_true, decide_false, Bool.not_true, Bool.not_false, Bool.false_eq_true, if_false, if_true, Option.bind_some, Bool.and_false, Bool.false_and]
    · have c1' : ¬ (row.length : Int) = ((Proto.Home p).length : Int) := by omega
      simp only [c1, c1', decide_false, Bool.not_false, if_true, Option.bind_some, Bool.false_and, Bool.false_eq_true, if_false]) (fun _ => by
    unfold r10_Right_L3
    simp only [show ¬ (List.length (Proto.Wait p) : Int) < (List.length (Proto.Wait p) : Int) by omega, decide_false, Bool.false_eq_true, if_false])
  have l1 := check_all (f := r10_Right_L1 p (List.length (Proto.Wait p) : Int) (List.length (Proto.Home p) : Int)) (n := (Proto.Home p).length) (g := fun _ => some true) (fun i => (i : Int)) (lineB p) (fun i hi _ => by
    have hlt : (i : Int) < (List.length (Proto.Home p) : Int) := by omega
    have hid : i < (Proto.Dir p).length := by omega
    have hib : i < (Proto.Busy p).length := by omega
    unfold r10_Right_L1 lineB
    rw [optT_in hid, optT_in hib]
    simp only [hlt, decide_true, if_true, getO_in hid, getO_in hib, r09_May_eq, Option.bind_some, w64_succ (show i < 4611686018427387904 by omega)]
    cases mayB (Proto.Dir p)[i] (Proto.Wait p).length
    · rfl
    · simp only [Bool.not_true, Bool.false_eq_true, if_false, Option.bind_some, Bool.true_and]
      by_cases s1 : (Proto.Busy p)[i] < 0
      · rw [decide_eq_true s1, decide_eq_false (show ¬ 0 ≤ (Proto.Busy p)[i] by omega)]; rfl
      rw [decide_eq_false s1, decide_eq_true (show 0 ≤ (Proto.Busy p)[i] by omega)]
      by_cases s2 : ((Proto.Wait p).length : Int) < (Proto.Busy p)[i]
      · rw [decide_eq_true s2, decide_eq_false (show ¬ (Proto.Busy p)[i] ≤ ((Proto.Wait p).length : Int) by omega)]; rfl
      · rw [decide_eq_false s2, decide_eq_true (show (Proto.Busy p)[i] ≤ ((Proto.Wait p).length : Int) by omega)]; rfl) (fun _ => by
    unfold r10_Right_L1
    simp only [show ¬ (List.length (Proto.Home p) : Int) < (List.length (Proto.Home p) : Int) by omega, decide_false, Bool.false_eq_true, if_false])
  rw [show (((0 : Nat) : Int)) = 0 from rfl] at l1
  have l3' := l3 (fun _ : Unit => orExit (loopD (r10_Right_L1 p (List.length (Proto.Wait p) : Int) (List.length (Proto.Home p) : Int)) (0 : Int)) fun _ : Unit => some true)
  rw [show (((0 : Nat) : Int)) = 0 from rfl] at l3'
  rw [l3', l1]
  have hand : ((List.range (Proto.Wait p).length).all fun i => rowB p i && coreB p i) = ((List.range (Proto.Wait p).length).all (rowB p) && (List.range (Proto.Wait p).length).all (coreB p)) := by
    rw [Bool.eq_iff_iff, Bool.and_eq_true, range_all, range_all, range_all]
    constructor
    · intro q
      exact ⟨fun i hi => (Bool.and_eq_true _ _ ▸ q i hi).1, fun i hi => (Bool.and_eq_true _ _ ▸ q i hi).2⟩
    · rintro ⟨q1, q2⟩ i hi
      rw [q1 i hi, q2 i hi]
      rfl
  rw [hand]
  cases (List.range (Proto.Wait p).length).all (rowB p)
  · rfl
  · cases (List.range (Proto.Wait p).length).all (coreB p)
    · rfl
    · cases (List.range (Proto.Home p).length).all (lineB p) <;> rfl

end Go.Proofs.Ytihchahfnhoapaa
