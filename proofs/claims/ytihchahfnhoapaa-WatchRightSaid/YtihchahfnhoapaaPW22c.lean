/- Layer 22: what holds of a line; the law WatchRight on typed data. -/
import Derived.Test.YtihchahfnhoapaaPW22b
import Derived.Test.YtihchahfnhoapaaD222
set_option linter.unusedSimpArgs false
set_option linter.unusedVariables false
namespace Go.Proofs.Ytihchahfnhoapaa
open Go.SX

structure RF (p : Proto) : Prop where
  w4 : (Proto.Wait p).length ≤ 4
  h16 : (Proto.Home p).length ≤ 16
  sl : (Proto.State p).length = (Proto.Wait p).length
  vl : (Proto.Val p).length = (Proto.Wait p).length
  dl : (Proto.Dir p).length = (Proto.Home p).length
  bl : (Proto.Busy p).length = (Proto.Home p).length
  row : ∀ n, n < (Proto.Wait p).length → (stateAt p n).length = (Proto.Home p).length ∧ (valAt p n).length = (Proto.Home p).length
  line : ∀ n (hn : n < (Proto.Wait p).length), 0 ≤ Wait.Line (Proto.Wait p)[n] ∧ Wait.Line (Proto.Wait p)[n] ≤ ((Proto.Home p).length : Int)
  st : ∀ n, n < (Proto.Wait p).length → ∀ s ∈ stateAt p n, 0 ≤ s ∧ s ≤ 4
  busy : ∀ l (hl : l < (Proto.Busy p).length), 0 ≤ (Proto.Busy p)[l] ∧ (Proto.Busy p)[l] ≤ ((Proto.Wait p).length : Int)
  own : ∀ l (hl : l < (Proto.Dir p).length), 0 ≤ Entry.Owner (Proto.Dir p)[l] ∧ (Entry.Share (Proto.Dir p)[l]).length = (Proto.Wait p).length
theorem rf_of {p : Proto} (h : rightB p = true) : RF p := by
  unfold rightB at h
  rw [Bool.and_eq_true, Bool.and_eq_true, Bool.and_eq_true, Bool.and_eq_true, range_all, range_all, range_all] at h
  obtain ⟨⟨h1, h2⟩, h3, h4, h5⟩ := h
  have z := of_decide_eq_true h1
  obtain ⟨z1, z2, z3, z4, z5, z6, z7, z8⟩ := z
  refine ⟨z2, z4, z5, z6, z7, z8, ?_, ?_, ?_, ?_, ?_⟩
  · intro n hn
    have := h2 n hn
    unfold rowB at this
    rw [Bool.and_eq_true] at this
    exact ⟨of_decide_eq_true this.1, of_decide_eq_true this.2⟩
  · intro n hn
    have := h4 n hn
    unfold coreB waitB at this
    rw [optT_in hn, Bool.and_eq_true, Bool.and_eq_true, Bool.and_eq_true] at this
    exact ⟨of_decide_eq_true this.1.1.1, of_decide_eq_true this.1.1.2⟩
  · intro n hn s hs
    have := h4 n hn
    unfold coreB at this
    rw [Bool.and_eq_true, List.all_eq_true] at this
    have t := this.2 s hs
    unfold stB at t
    rw [Bool.and_eq_true] at t
    exact ⟨of_decide_eq_true t.1, of_decide_eq_true t.2⟩
  · intro l hl
    have := h5 l (by omega)
    unfold lineB at this
    rw [Bool.and_eq_true, optT_in hl, Bool.and_eq_true] at this
    exact ⟨of_decide_eq_true this.2.1, of_decide_eq_true this.2.2⟩
  · intro l hl
    have := h5 l (by omega)
    unfold lineB at this
    rw [Bool.and_eq_true, optT_in hl] at this
    have t := this.1
    unfold mayB at t
    rw [Bool.and_eq_true] at t
    have := of_decide_eq_true t.1
    exact ⟨this.2.2.2.1, this.2.2.1⟩

/-! ### Who has a line -/
def stV (p : Proto) (n l : Nat) : Int := (stateAt p n)[l]?.getD 0
def valV (p : Proto) (n l : Nat) : Int := (valAt p n)[l]?.getD 0
def thereB (p : Proto) (line : Int) : Bool := rightB p && proto_within line (List.length (Proto.Home p) : Int)
def hasS (p : Proto) (n l : Nat) (w : Bool) : Bool := !optT (fun x => !decide (Wait.Line x = ((l + 1 : Nat) : Int))) (Proto.Wait p)[n]? == false && (if w = true then (decide (stV p n l = 2) || decide (stV p n l = 3)) else !decide (stV p n l = 0))
def hasV (p : Proto) (line : Int) (w : Bool) (n : Nat) : Bool := thereB p line && hasS p n line.toNat w
theorem st_get {p : Proto} (R : RF p) {n l : Nat} (hn : n < (Proto.Wait p).length) (hl : l < (Proto.Home p).length) : getO (Proto.State p) (n : Int) = some (stateAt p n) ∧ getO (stateAt p n) (l : Int) = some (stV p n l) ∧ getO (Proto.Val p) (n : Int) = some (valAt p n) ∧ getO (valAt p n) (l : Int) = some (valV p n l) := by
  have h1 := R.sl
  have h2 := R.vl
  obtain ⟨r1, r2⟩ := R.row n hn
  have hs : n < (Proto.State p).length := by omega
  have hv : n < (Proto.Val p).length := by omega
  refine ⟨?_, ?_, ?_, ?_⟩
  · rw [getO_in hs]; unfold stateAt; rw [List.getElem?_eq_getElem hs]; rfl
  · rw [getO_in (by omega)]; unfold stV; rw [List.getElem?_eq_getElem (by omega)]; rfl
  · rw [getO_in hv]; unfold valAt; rw [List.getElem?_eq_getElem hv]; rfl
  · rw [getO_in (by omega)]; unfold valV; rw [List.getElem?_eq_getElem (by omega)]; rfl
theorem has1 {p : Proto} (hs : ShortP p) (line : Int) (w : Bool) (n : Nat) (hn : n < (Proto.Wait p).length) : proto_Has p (n : Int) line w = some (hasV p line w n) := by
  unfold proto_Has hasV thereB
  rw [there_eq (proto_Right_eq hs), show proto_within (n : Int) (List.length (Proto.Wait p) : Int) = true from within_iff.2 (by omega), Bool.true_and]
  cases hr : rightB p
  · rfl
  cases hl : proto_within line (List.length (Proto.Home p) : Int)
  · rfl
  have R := rf_of hr
  have hl' := within_iff.1 hl
  obtain ⟨l, rfl⟩ : ∃ l : Nat, line = (l : Int) := ⟨line.toNat, by omega⟩
  obtain ⟨g1, g2, _, _⟩ := st_get R hn (l := l) (by omega)
  have h16 := R.h16
  unfold proto_has hasS
  rw [optT_in hn, Int.toNat_natCast]
  simp only [g1, g2, getO_in hn, Option.bind_some, Bool.and_self, if_true, w64_succ (show l < 4611686018427387904 by omega), Bool.true_and]
  by_cases hwl : Wait.Line (Proto.Wait p)[n] = ((l + 1 : Nat) : Int)
  · simp only [hwl, decide_true, if_true, Option.bind_some]
    rfl
  · simp only [hwl, decide_false, Bool.false_eq_true, if_false, Option.bind_some]
    cases w <;> rfl
theorem has2 {p : Proto} (hs : ShortP p) (line : Int) (w : Bool) (n : Nat) (hn : n < (Proto.Wait p).length) : r10_Has p (n : Int) line w = some (hasV p line w n) := by
  unfold r10_Has r10_there hasV thereB
  rw [r10_Right_eq hs]
  cases hr : rightB p
  · rfl
  have hn0 : (0 : Int) ≤ (n : Int) := by omega
  have hn1 : (n : Int) < (List.length (Proto.Wait p) : Int) := by omega
  simp only [Option.bind_some, if_true, hn0, hn1, decide_true, Bool.true_and]
  by_cases h0 : (0 : Int) ≤ line
  · by_cases h1 : line < (List.length (Proto.Home p) : Int)
    · have hl : proto_within line (List.length (Proto.Home p) : Int) = true := within_iff.2 ⟨h0, h1⟩
      have R := rf_of hr
      obtain ⟨l, rfl⟩ : ∃ l : Nat, line = (l : Int) := ⟨line.toNat, by omega⟩
      obtain ⟨g1, g2, _, _⟩ := st_get R hn (l := l) (by omega)
      have h16 := R.h16
      unfold hasS
      rw [optT_in hn, Int.toNat_natCast, hl]
      simp only [h0, h1, decide_true, if_true, Option.bind_some, Bool.not_true, Bool.false_eq_true, if_false, getO_in hn, g1, g2, w64_succ (show l < 4611686018427387904 by omega), Bool.true_and]
      by_cases hwl : Wait.Line (Proto.Wait p)[n] = ((l + 1 : Nat) : Int)
      · simp only [hwl, decide_true, if_true, Option.bind_some]
        rfl
      · simp only [hwl, decide_false, Bool.false_eq_true, if_false, Option.bind_some]
        cases w
        · congr 1
          by_cases s2 : stV p n l = 2
          · simp [s2]
          · by_cases s3 : stV p n l = 3
            · simp [s3]
            · simp [s2, s3]
        · simp
    · have hl : proto_within line (List.length (Proto.Home p) : Int) = false := by
        rw [Bool.eq_false_iff]; intro q; exact h1 (within_iff.1 q).2
      rw [hl]
      simp only [h0, h1, decide_true, decide_false, if_true, Option.bind_some, Bool.not_false, Bool.false_and]
  · have hl : proto_within line (List.length (Proto.Home p) : Int) = false := by
      rw [Bool.eq_false_iff]; intro q; exact h0 (within_iff.1 q).1
    rw [hl]
    simp only [h0, decide_false, Bool.false_eq_true, if_false, if_true, Option.bind_some, Bool.not_false, Bool.false_and]
theorem hasB_is {p : Proto} (hs : ShortP p) (line : Int) (n : Nat) (hn : n < (Proto.Wait p).length) : hasB p line n = hasV p line false n := by
  unfold hasB
  rw [has1 hs line false n hn]
  rfl
theorem has_write {p : Proto} {line : Int} {n : Nat} (h : hasV p line true n = true) : hasV p line false n = true := by
  unfold hasV hasS at h ⊢
  rw [Bool.and_eq_true, Bool.and_eq_true] at h ⊢
  refine ⟨h.1, h.2.1, ?_⟩
  have h2 := h.2.2
  rw [if_pos rfl, Bool.or_eq_true, decide_eq_true_eq, decide_eq_true_eq] at h2
  rw [if_neg (by simp), Bool.not_eq_true', decide_eq_false_iff_not]
  omega
theorem who_is {p : Proto} (hs : ShortP p) (line : Int) : watch_Who p line = some (whoS p line (Proto.Wait p).length) :=
  who_eq hs (proto_Right_eq hs) (fun h => by
    obtain ⟨b, hb, hF⟩ := right_ends hs
    rw [proto_Right_eq hs] at hb
    exact hF (by rw [← Option.some.inj hb]; exact h)) line
theorem r22_who {p : Proto} (hs : ShortP p) (line : Int) : r22_Who p line = some (whoS p line (Proto.Wait p).length) := by
  unfold r22_Who
  have hw6 := hs.wait
  have lp := loop_good (f := r22_Who_L1 p line) (n := (Proto.Wait p).length) (e := whoS p line (Proto.Wait p).length) (fun i => ((i : Int), whoS p line i)) (fun i hi => by
    have hlt : (i : Int) < (List.length (Proto.Wait p) : Int) := by omega
    have hx := has2 hs line false i hi
    have hb := hasB_is hs line i hi
    have hwl := whoS_len p line i
    have ha : appO 8 (whoS p line i) ([(i : Int)] : List Int) = some (whoS p line i ++ [(i : Int)]) := appO_small (by simp; omega) (by omega)
    have hsu : whoS p line (i + 1) = if hasV p line false i = true then whoS p line i ++ [(i : Int)] else whoS p line i := by
      unfold whoS
      rw [List.range_succ, List.filter_append, List.map_append]
      cases hv : hasV p line false i
      · rw [if_neg (by simp), List.filter_cons_of_neg (by rw [hb, hv]; simp)]
        simp
      · rw [if_pos rfl, List.filter_cons_of_pos (by rw [hb, hv])]
        simp
    unfold r22_Who_L1
    simp only [hlt, decide_true, if_true, hx, Option.bind_some, w64_succ (show i < 4611686018427387904 by omega), hsu]
    cases hasV p line false i
    · simp
    · simp [ha]) (by
    unfold r22_Who_L1
    simp only [show ¬ (List.length (Proto.Wait p) : Int) < (List.length (Proto.Wait p) : Int) by omega, decide_false, Bool.false_eq_true, if_false])
  rw [show whoS p line 0 = [] from rfl, show (((0 : Nat) : Int)) = 0 from rfl] at lp
  simp only [lp, Option.bind_some]
theorem who_has {p : Proto} (hs : ShortP p) (line : Int) (w : Int) : w ∈ whoS p line (Proto.Wait p).length ↔ ∃ n : Nat, w = (n : Int) ∧ n < (Proto.Wait p).length ∧ hasV p line false n = true := by
  constructor
  · intro h
    obtain ⟨n, h1, h2, h3⟩ := whoS_mem h
    exact ⟨n, h1, h2, by rw [← hasB_is hs line n h2]; exact h3⟩
  · rintro ⟨n, rfl, h2, h3⟩
    unfold whoS
    exact List.mem_map.2 ⟨n, List.mem_filter.2 ⟨List.mem_range.2 h2, by rw [hasB_is hs line n h2]; exact h3⟩, rfl⟩
theorem who_sorted (p : Proto) (line : Int) (k : Nat) : (whoS p line k).Pairwise (· < ·) := by
  unfold whoS
  rw [List.pairwise_map]
  exact (List.pairwise_lt_range.filter _).imp (fun h => by omega)
theorem there1 {p : Proto} (hs : ShortP p) (line : Int) : watch_there p line = some (thereB p line) := wthere_eq (proto_Right_eq hs) line
theorem there2 {p : Proto} (hs : ShortP p) (line : Int) : r22_there p line = some (thereB p line) := by
  unfold r22_there thereB proto_within
  rw [r10_Right_eq hs]
  cases rightB p
  · rfl
  · simp only [Option.bind_some, if_true, Bool.true_and]
    by_cases h0 : (0 : Int) ≤ line <;> simp [h0]

/-! ### Alone -/
def aloneB (p : Proto) (line : Int) : Bool := thereB p line && (List.range (Proto.Wait p).length).all fun a => (List.range (Proto.Wait p).length).all fun b => !(!decide (a = b) && (hasV p line true a && hasV p line false b))
theorem alone1 {p : Proto} (hs : ShortP p) (line : Int) : watch_Alone p line = some (aloneB p line) := by
  unfold watch_Alone aloneB
  rw [there1 hs line, who_is hs line]
  cases thereB p line
  · rfl
  have hmem := who_has hs line
  have hso := who_sorted p line (Proto.Wait p).length
  have hwl0 := whoS_len p line (Proto.Wait p).length
  have hw6 := hs.wait
  obtain ⟨who, hwho⟩ : ∃ who, who = whoS p line (Proto.Wait p).length := ⟨_, rfl⟩
  rw [← hwho] at hmem hso hwl0 ⊢
  have lp := contains_loop (f := watch_Alone_L1 p line who (List.length who : Int)) (n := who.length) (fun i => optT (fun w => !hasV p line true w.toNat) who[i]?) (fun i hi => by
    have hlt : (i : Int) < (List.length who : Int) := by omega
    obtain ⟨n, e1, e2, _⟩ := (hmem who[i]).1 (List.getElem_mem hi)
    rw [optT_in hi]
    unfold watch_Alone_L1
    simp only [hlt, decide_true, if_true, getO_in hi, Option.bind_some, w64_succ (show i < 4611686018427387904 by omega), e1, has1 hs line true n e2, Int.toNat_natCast]
    cases hasV p line true n <;> rfl) (by
    unfold watch_Alone_L1
    simp only [show ¬ (List.length who : Int) < (List.length who : Int) by omega, decide_false, Bool.false_eq_true, if_false])
  rw [← all_range] at lp
  simp only [Option.bind_some, Bool.not_true, Bool.false_eq_true, if_false, Bool.true_and]
  have key : (List.range (Proto.Wait p).length).all (fun a => (List.range (Proto.Wait p).length).all fun b => !(!decide (a = b) && (hasV p line true a && hasV p line false b))) = true ↔ (who.length < 2 ∨ who.all (fun w => !hasV p line true w.toNat) = true) := by
    rw [range_all]
    constructor
    · intro h
      rcases Nat.lt_or_ge who.length 2 with q | q
      · exact .inl q
      · right
        rw [List.all_eq_true]
        intro w hw
        obtain ⟨n, rfl, hn, hh⟩ := (hmem w).1 hw
        rw [Int.toNat_natCast, Bool.not_eq_true']
        rw [Bool.eq_false_iff]
        intro hwr
        -- another one
        have : ∃ m : Nat, m ≠ n ∧ m < (Proto.Wait p).length ∧ hasV p line false m = true := by
          match who, q, hso, hmem with
          | x :: y :: t, _, hso, hmem =>
            obtain ⟨a, ea, ha, hha⟩ := (hmem x).1 (by simp)
            obtain ⟨b, eb, hb, hhb⟩ := (hmem y).1 (by simp)
            have hxy : x < y := (List.pairwise_cons.1 hso).1 y (by simp)
            by_cases han : a = n
            · exact ⟨b, by omega, hb, hhb⟩
            · exact ⟨a, han, ha, hha⟩
        obtain ⟨m, hmn, hm, hhm⟩ := this
        have t := range_all.1 (h n hn) m hm
        rw [hwr, hhm, decide_eq_false (show ¬ n = m by omega)] at t
        cases t
    · intro h a ha
      rw [range_all]
      intro b hb
      by_cases hab : a = b
      · rw [decide_eq_true hab]; rfl
      rw [decide_eq_false hab]
      cases h1 : hasV p line true a
      · rfl
      cases h2 : hasV p line false b
      · rfl
      exfalso
      have m1 := (hmem (a : Int)).2 ⟨a, rfl, ha, has_write h1⟩
      have m2 := (hmem (b : Int)).2 ⟨b, rfl, hb, h2⟩
      rcases h with h | h
      · match who, h, m1, m2 with
        | [], _, m1, _ => cases m1
        | [x], _, m1, m2 =>
          simp only [List.mem_singleton] at m1 m2
          omega
      · rw [List.all_eq_true] at h
        have t := h _ m1
        rw [Int.toNat_natCast, h1] at t
        cases t
  generalize (List.range (Proto.Wait p).length).all (fun a => (List.range (Proto.Wait p).length).all fun b => !(!decide (a = b) && (hasV p line true a && hasV p line false b))) = K at key ⊢
  by_cases h2 : who.length < 2
  · rw [key.2 (.inl h2), decide_eq_true (show (List.length who : Int) < 2 by omega)]
    rfl
  · rw [decide_eq_false (show ¬ (List.length who : Int) < 2 by omega)]
    simp only [Bool.false_eq_true, if_false, lp, Option.bind_some, Bool.not_not]
    cases hK : K
    · cases ha : who.all fun w => !hasV p line true w.toNat
      · rfl
      · have := key.2 (.inr ha)
        rw [hK] at this
        cases this
    · rcases key.1 hK with q | q
      · exact absurd q h2
      · rw [q]
theorem alone2 {p : Proto} (hs : ShortP p) (line : Int) : r22_Alone p line = some (aloneB p line) := by
  unfold r22_Alone aloneB
  rw [there2 hs line]
  cases thereB p line
  · rfl
  have hw6 := hs.wait
  have inner := fun (a : Nat) (ha : a < (Proto.Wait p).length) => loop_check (f := r22_Alone_L1 p line (a : Int)) (n := (Proto.Wait p).length) (e := (Sum.inl () : Unit ⊕ Int ⊕ Unit ⊕ Bool)) (r := .inr (.inr (.inr false))) (fun j => (j : Int)) (fun b => !(!decide (a = b) && (hasV p line true a && hasV p line false b))) (fun j hj _ => by
    have hlt : (j : Int) < (List.length (Proto.Wait p) : Int) := by omega
    unfold r22_Alone_L1
    simp only [hlt, decide_true, if_true, Option.bind_some, w64_succ (show j < 4611686018427387904 by omega), has2 hs line true a ha, has2 hs line false j hj]
    by_cases hab : a = j
    · rw [decide_eq_true hab, decide_eq_true (show (a : Int) = (j : Int) by omega)]
      rfl
    · rw [decide_eq_false hab, decide_eq_false (show ¬ (a : Int) = (j : Int) by omega)]
      cases hasV p line true a
      · rfl
      · cases hasV p line false j <;> rfl) (fun _ => by
    unfold r22_Alone_L1
    simp only [show ¬ (List.length (Proto.Wait p) : Int) < (List.length (Proto.Wait p) : Int) by omega, decide_false, Bool.false_eq_true, if_false])
  have lp := check_all (f := r22_Alone_L2 p line) (n := (Proto.Wait p).length) (g := fun _ => some true) (fun i => (i : Int)) (fun a => (List.range (Proto.Wait p).length).all fun b => !(!decide (a = b) && (hasV p line true a && hasV p line false b))) (fun i hi _ => by
    have hlt : (i : Int) < (List.length (Proto.Wait p) : Int) := by omega
    have il := inner i hi
    rw [show (((0 : Nat) : Int)) = 0 from rfl] at il
    unfold r22_Alone_L2
    simp only [hlt, decide_true, if_true, il, w64_succ (show i < 4611686018427387904 by omega)]
    cases (List.range (Proto.Wait p).length).all fun b => !(!decide (i = b) && (hasV p line true i && hasV p line false b)) <;> rfl) (fun _ => by
    unfold r22_Alone_L2
    simp only [show ¬ (List.length (Proto.Wait p) : Int) < (List.length (Proto.Wait p) : Int) by omega, decide_false, Bool.false_eq_true, if_false])
  rw [show (((0 : Nat) : Int)) = 0 from rfl] at lp
  simp only [Option.bind_some, Bool.not_true, Bool.false_eq_true, if_false, Bool.true_and, lp]
  cases (List.range (Proto.Wait p).length).all fun a => (List.range (Proto.Wait p).length).all fun b => !(!decide (a = b) && (hasV p line true a && hasV p line false b)) <;> rfl

end Go.Proofs.Ytihchahfnhoapaa
