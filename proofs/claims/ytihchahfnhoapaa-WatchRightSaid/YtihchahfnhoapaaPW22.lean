/- Layer 22: who has a line; the law WatchWho on typed data. -/
import Derived.Test.YtihchahfnhoapaaPG
import Derived.Test.YtihchahfnhoapaaD221
import Derived.Test.YtihchahfnhoapaaD223
set_option linter.unusedSimpArgs false
set_option linter.unusedVariables false
namespace Go.Proofs.Ytihchahfnhoapaa
open Go.SX

/-- A loop that comes to an end. -/
theorem loop_ends {E : Type} {f : Int → Option (Int ⊕ E)} {n : Nat} (step : ∀ i, i < n → f (i : Int) = some (.inl ((i + 1 : Nat) : Int)) ∨ ∃ r, f (i : Int) = some (.inr r)) (out : ∃ e, f (n : Int) = some (.inr e)) : ∃ e, loopD f (0 : Int) = some e := by
  have main : ∀ d i, n - i = d → i ≤ n → ∃ e, loopD f (i : Int) = some e := by
    intro d
    induction d with
    | zero =>
      intro i hd hi
      obtain ⟨e, he⟩ := out
      have : i = n := by omega
      rw [this]
      exact ⟨e, loop_out he⟩
    | succ d ih =>
      intro i hd hi
      rcases step i (by omega) with h | ⟨r, h⟩
      · rw [loop_next h]
        exact ih (i + 1) (by omega) (by omega)
      · exact ⟨r, loop_out h⟩
  exact main n 0 (by omega) (by omega)
theorem orExit_ends {α β : Type} {o : Option (α ⊕ β)} {k : α → Option β} (h : ∃ e, o = some e) (hk : ∀ a, ∃ b, k a = some b) : ∃ b, orExit o k = some b := by
  obtain ⟨e, rfl⟩ := h
  cases e with
  | inl a => exact hk a
  | inr b => exact ⟨b, rfl⟩

def rowsB (l : List (List Int)) (n m : Nat) : Bool := decide (l.length = n) && l.all fun r => decide (r.length = m)
theorem rows_eq (l : List (List Int)) (n m : Nat) (hl : l.length ≤ 1000) : proto_rows_int l (n : Int) (m : Int) = some (rowsB l n m) := by
  unfold proto_rows_int rowsB
  by_cases hn : l.length = n
  · have hn' : (l.length : Int) = (n : Int) := by omega
    have lp := loop_first (f := proto_rows_int_L1 l (m : Int) (List.length l : Int)) (n := l.length) (fun i => (i : Int)) (fun i => optT (fun r => decide (r.length = m)) l[i]?) (e := (Sum.inl () : Unit ⊕ Int)) (r := fun i => .inr (i : Int)) (fun i hi _ => by
      have hlt : (i : Int) < (List.length l : Int) := by omega
      rw [optT_in hi]
      unfold proto_rows_int_L1
      simp only [hlt, decide_true, if_true, getO_in hi, Option.bind_some, w64_succ (show i < 4611686018427387904 by omega)]
      by_cases h : l[i].length = m
      · have h' : (l[i].length : Int) = (m : Int) := by omega
        simp only [h, h', decide_true, Bool.not_true, Bool.false_eq_true, if_false, if_true]
      · have h' : ¬ (l[i].length : Int) = (m : Int) := by omega
        simp only [h, h', decide_false, Bool.not_false, Bool.false_eq_true, if_false, if_true]) (fun _ => by
      unfold proto_rows_int_L1
      simp only [show ¬ (List.length l : Int) < (List.length l : Int) by omega, decide_false, Bool.false_eq_true, if_false])
    rw [show (((0 : Nat) : Int)) = 0 from rfl] at lp
    have f1 := (firstI_facts (fun i => optT (fun r : List Int => decide (r.length = m)) l[i]?) l.length).1
    have f2 := firstI_all (ok := fun i => optT (fun r : List Int => decide (r.length = m)) l[i]?) (n := l.length)
    rw [← range_all, ← all_range] at f2
    rw [decide_eq_true hn', if_pos rfl, decide_eq_true hn, Bool.true_and]
    simp only [lp]
    by_cases ha : (l.all fun r => decide (r.length = m)) = true
    · have := f2.2 ha
      rw [if_neg (by omega), ha]
      rfl
    · have : firstI (fun i => optT (fun r : List Int => decide (r.length = m)) l[i]?) l.length < l.length := by
        rcases Nat.lt_or_ge (firstI (fun i => optT (fun r : List Int => decide (r.length = m)) l[i]?) l.length) l.length with q | q
        · exact q
        · exact absurd (f2.1 (by omega)) ha
      rw [if_pos this, Bool.eq_false_iff.2 ha]
      have h0 : (0 : Int) ≤ ((firstI (fun i => optT (fun r : List Int => decide (r.length = m)) l[i]?) l.length : Nat) : Int) := by omega
      simp only [orExit_inr, Option.bind_some, h0, decide_true, Bool.not_true]
  · have hn' : ¬ (l.length : Int) = (n : Int) := by omega
    rw [decide_eq_false hn', if_neg (by simp), decide_eq_false hn]
    rfl
theorem rows2_eq (l : List (List Int)) (n m : Nat) (hl : l.length ≤ 1000) : proto_rows_uint32 l (n : Int) (m : Int) = some (rowsB l n m) := rows_eq l n m hl
theorem rowsB_facts {l : List (List Int)} {n m : Nat} (h : rowsB l n m = true) : l.length = n ∧ ∀ r ∈ l, r.length = m := by
  unfold rowsB at h
  rw [Bool.and_eq_true, decide_eq_true_eq, List.all_eq_true] at h
  exact ⟨h.1, fun r hr => of_decide_eq_true (h.2 r hr)⟩

structure Formed (p : Proto) : Prop where
  wl : (Proto.Wait p).length ≤ 4
  hl : (Proto.Home p).length ≤ 16
  state : (Proto.State p).length = (Proto.Wait p).length ∧ ∀ r ∈ Proto.State p, r.length = (Proto.Home p).length
  val : (Proto.Val p).length = (Proto.Wait p).length ∧ ∀ r ∈ Proto.Val p, r.length = (Proto.Home p).length
  dir : (Proto.Dir p).length = (Proto.Home p).length
  busy : (Proto.Busy p).length = (Proto.Home p).length
structure ShortP (p : Proto) : Prop where
  state : (Proto.State p).length ≤ 6
  val : (Proto.Val p).length ≤ 6
  wait : (Proto.Wait p).length ≤ 6
  home : (Proto.Home p).length ≤ 20
  frames : (Pool.Frames (Proto.Pool p)).length ≤ 80
theorem formed_ends {p : Proto} (hs : ShortP p) : ∃ b, proto_formed p = some b ∧ (b = true → Formed p) := by
  have e1 := rows_eq (Proto.State p) (Proto.Wait p).length (Proto.Home p).length (by have := hs.state; omega)
  have e2 := rows2_eq (Proto.Val p) (Proto.Wait p).length (Proto.Home p).length (by have := hs.val; omega)
  unfold proto_formed
  simp only [e1, e2, Option.bind_some]
  by_cases hc : ((decide ((List.length (Proto.Wait p) : Int) < (1 : Int))) || ((decide ((4 : Int) < (List.length (Proto.Wait p) : Int))) || ((decide ((List.length (Proto.Home p) : Int) < (1 : Int))) || (decide ((16 : Int) < (List.length (Proto.Home p) : Int)))))) = true
  · rw [if_pos hc]
    exact ⟨false, rfl, fun h => by cases h⟩
  · rw [if_neg hc]
    simp only [Bool.or_eq_true, decide_eq_true_eq] at hc
    cases h1 : rowsB (Proto.State p) (Proto.Wait p).length (Proto.Home p).length
    · exact ⟨false, rfl, fun h => by cases h⟩
    cases h2 : rowsB (Proto.Val p) (Proto.Wait p).length (Proto.Home p).length
    · exact ⟨false, rfl, fun h => by cases h⟩
    by_cases h3 : (List.length (Proto.Dir p) : Int) = (List.length (Proto.Home p) : Int)
    · by_cases h4 : (List.length (Proto.Busy p) : Int) = (List.length (Proto.Home p) : Int)
      · refine ⟨true, ?_, fun _ => ⟨by omega, by omega, rowsB_facts h1, rowsB_facts h2, by omega, by omega⟩⟩
        simp only [if_true, h3, h4, decide_true, Option.bind_some]
      · refine ⟨false, ?_, fun h => by cases h⟩
        simp only [if_true, h3, h4, decide_true, decide_false, Option.bind_some]
    · refine ⟨false, ?_, fun h => by cases h⟩
      simp only [if_true, h3, decide_false, Option.bind_some, Bool.false_eq_true, if_false]

theorem pool_ends {p : Proto} (hs : ShortP p) : ∃ b, pool_Right (Proto.Pool p) = some b := by
  have hf := hs.frames
  unfold pool_Right
  obtain ⟨fr, hfr⟩ : ∃ fr, fr = Pool.Frames (Proto.Pool p) := ⟨_, rfl⟩
  rw [← hfr] at hf ⊢
  have lp := loop_ends (f := pool_Right_L1 fr (List.length fr : Int)) (n := fr.length) (fun i hi => by
    have hlt : (i : Int) < (List.length fr : Int) := by omega
    unfold pool_Right_L1
    simp only [hlt, decide_true, if_true, getO_in hi, Option.bind_some, w64_succ (show i < 4611686018427387904 by omega)]
    cases pool_Right_1 fr[i]
    · exact .inl rfl
    · exact .inr ⟨_, rfl⟩) ⟨_, by
    unfold pool_Right_L1
    simp only [show ¬ (List.length fr : Int) < (List.length fr : Int) by omega, decide_false, Bool.false_eq_true, if_false]
    rfl⟩
  obtain ⟨b, hb⟩ := orExit_ends (k := fun v6 => some ((-1 : Int))) lp fun _ => ⟨_, rfl⟩
  by_cases h : (List.length fr : Int) ≤ 64
  · simp only [h, decide_true, if_true, hb, Option.bind_some]
    exact ⟨_, rfl⟩
  · simp only [h, decide_false, Bool.false_eq_true, if_false, Option.bind_some]
    exact ⟨_, rfl⟩

theorem may_ends (e : Entry) (n : Int) : ∃ b, direc_May e n = some b := by
  unfold direc_May
  by_cases hc : ((decide (n < (1 : Int))) || ((decide ((4 : Int) < n)) || ((!decide ((List.length (Entry.Share e) : Int) = n)) || ((decide ((Entry.Owner e) < (0 : Int))) || (decide (n < (Entry.Owner e))))))) = true
  · rw [if_pos hc]
    exact ⟨_, rfl⟩
  · rw [if_neg hc]
    simp only [Bool.or_eq_true, decide_eq_true_eq, Bool.not_eq_true', decide_eq_false_iff_not] at hc
    by_cases h0 : Entry.Owner e = 0
    · simp only [h0, decide_true, if_true, Option.bind_some]
      exact ⟨_, rfl⟩
    · have hw : w64 (Entry.Owner e - 1) = Entry.Owner e - 1 := w64_id (by omega) (by omega)
      have hg : getO (Entry.Share e) (Entry.Owner e - 1) = some ((Entry.Share e)[(Entry.Owner e - 1).toNat]'(by omega)) := getO_lt (by omega) (by omega)
      simp only [h0, decide_false, Bool.false_eq_true, if_false, hw, hg, Option.bind_some]
      exact ⟨_, rfl⟩

theorem right_ends {p : Proto} (hs : ShortP p) : ∃ b, proto_Right p = some b ∧ (b = true → Formed p) := by
  obtain ⟨f, hf, hF⟩ := formed_ends hs
  obtain ⟨q, hq⟩ := pool_ends hs
  unfold proto_Right
  simp only [hf, hq, Option.bind_some]
  cases f
  · exact ⟨false, rfl, fun h => by cases h⟩
  cases q
  · exact ⟨false, rfl, fun h => by cases h⟩
  have F := hF rfl
  have h4 := F.wl
  have h16 := F.hl
  have l3 := loop_ends (f := proto_Right_L3 p (List.length (Proto.Home p) : Int) (Proto.Wait p) (List.length (Proto.Wait p) : Int)) (n := (Proto.Wait p).length) (fun i hi => by
    have hlt : (i : Int) < (List.length (Proto.Wait p) : Int) := by omega
    have his : i < (Proto.State p).length := by have := F.state.1; omega
    have hrow := F.state.2 _ (List.getElem_mem his)
    unfold proto_Right_L3
    simp only [hlt, decide_true, if_true, getO_in hi, getO_in his, Option.bind_some, w64_succ (show i < 4611686018427387904 by omega)]
    obtain ⟨row, hr⟩ : ∃ row, row = (Proto.State p)[i] := ⟨_, rfl⟩
    rw [← hr] at hrow ⊢
    have l2 := loop_ends (f := proto_Right_L2 row (List.length row : Int)) (n := row.length) (fun j hj => by
      have hlt : (j : Int) < (List.length row : Int) := by omega
      unfold proto_Right_L2
      simp only [hlt, decide_true, if_true, getO_in hj, Option.bind_some, w64_succ (show j < 4611686018427387904 by omega)]
      cases proto_Right_1 row[j]
      · exact .inl rfl
      · exact .inr ⟨_, rfl⟩) ⟨_, by
      unfold proto_Right_L2
      simp only [show ¬ (List.length row : Int) < (List.length row : Int) by omega, decide_false, Bool.false_eq_true, if_false]
      rfl⟩
    obtain ⟨b, hb⟩ := orExit_ends (k := fun v15 => some ((-1 : Int))) l2 fun _ => ⟨_, rfl⟩
    simp only [hb, Option.bind_some]
    split
    · exact .inr ⟨_, rfl⟩
    · cases decide ((0 : Int) ≤ b)
      · exact .inl rfl
      · exact .inr ⟨_, rfl⟩) ⟨_, by
    unfold proto_Right_L3
    simp only [show ¬ (List.length (Proto.Wait p) : Int) < (List.length (Proto.Wait p) : Int) by omega, decide_false, Bool.false_eq_true, if_false]
    rfl⟩
  have l1 := loop_ends (f := proto_Right_L1 p (List.length (Proto.Wait p) : Int) (Proto.Dir p) (List.length (Proto.Dir p) : Int)) (n := (Proto.Dir p).length) (fun i hi => by
    have hlt : (i : Int) < (List.length (Proto.Dir p) : Int) := by omega
    have hib : i < (Proto.Busy p).length := by have := F.dir; have := F.busy; omega
    have hd := F.dir
    obtain ⟨b, hb⟩ := may_ends (Proto.Dir p)[i] (List.length (Proto.Wait p) : Int)
    unfold proto_Right_L1
    simp only [hlt, decide_true, if_true, getO_in hi, getO_in hib, hb, Option.bind_some, w64_succ (show i < 4611686018427387904 by omega)]
    cases b
    · exact .inr ⟨_, rfl⟩
    · simp only [Bool.not_true, Bool.false_eq_true, if_false, Option.bind_some]
      cases !(proto_within (Proto.Busy p)[i] (w64 ((List.length (Proto.Wait p) : Int) + 1)))
      · exact .inl rfl
      · exact .inr ⟨_, rfl⟩) ⟨_, by
    unfold proto_Right_L1
    simp only [show ¬ (List.length (Proto.Dir p) : Int) < (List.length (Proto.Dir p) : Int) by omega, decide_false, Bool.false_eq_true, if_false]
    rfl⟩
  obtain ⟨b1, hb1⟩ := orExit_ends (k := fun _ : Unit => some true) l1 fun _ => ⟨_, rfl⟩
  obtain ⟨b2, hb2⟩ := orExit_ends (k := fun _ : Unit => orExit (loopD (proto_Right_L1 p (List.length (Proto.Wait p) : Int) (Proto.Dir p) (List.length (Proto.Dir p) : Int)) (0 : Int)) fun _ : Unit => some true) l3 fun _ => ⟨_, hb1⟩
  refine ⟨b2, ?_, fun _ => F⟩
  simp only [Bool.not_true, Bool.false_eq_true, if_false]
  exact hb2

/-! ### Who has a line -/
theorem within_iff {a b : Int} : proto_within a b = true ↔ 0 ≤ a ∧ a < b := by unfold proto_within; simp
theorem there_eq {p : Proto} {b : Bool} (h : proto_Right p = some b) (n line : Int) : proto_there p n line = some (b && (proto_within n (List.length (Proto.Wait p) : Int) && proto_within line (List.length (Proto.Home p) : Int))) := by
  unfold proto_there
  rw [h]
  cases b
  · rfl
  · simp only [Option.bind_some, if_true, Bool.true_and]
    cases proto_within n (List.length (Proto.Wait p) : Int) <;> rfl
theorem wthere_eq {p : Proto} {b : Bool} (h : proto_Right p = some b) (line : Int) : watch_there p line = some (b && proto_within line (List.length (Proto.Home p) : Int)) := by
  unfold watch_there proto_within
  rw [h]
  cases b
  · rfl
  · simp only [Option.bind_some, if_true, Bool.true_and]
    by_cases h0 : (0 : Int) ≤ line <;> simp [h0]
theorem has_get {p : Proto} {b : Bool} (h : proto_Right p = some b) (hF : b = true → Formed p) (n : Nat) (hn : n < (Proto.Wait p).length) (line : Int) :
    ∃ x : Bool, proto_Has p (n : Int) line false = some x ∧ (x = true → b = true ∧ 0 ≤ line ∧ line < ((Proto.Home p).length : Int)) ∧ ∃ v c, proto_Get p (n : Int) line = some (v, c) ∧ (c = 0 ↔ x = true) := by
  unfold proto_Has proto_Get
  rw [there_eq h]
  have hwn : proto_within (n : Int) (List.length (Proto.Wait p) : Int) = true := within_iff.2 (by omega)
  rw [hwn, Bool.true_and]
  cases b
  · exact ⟨false, rfl, fun q => (by cases q), 0, 1, rfl, by decide⟩
  · have F := hF rfl
    by_cases hl : proto_within line (List.length (Proto.Home p) : Int) = true
    · have hl' := within_iff.1 hl
      obtain ⟨l, rfl⟩ : ∃ l : Nat, line = (l : Int) := ⟨line.toNat, by omega⟩
      have hns : n < (Proto.State p).length := by have := F.state.1; omega
      have hnv : n < (Proto.Val p).length := by have := F.val.1; omega
      have hrow := F.state.2 _ (List.getElem_mem hns)
      have hrow2 := F.val.2 _ (List.getElem_mem hnv)
      have hls : l < ((Proto.State p)[n]).length := by omega
      have hlv : l < ((Proto.Val p)[n]).length := by omega
      have hh : ∃ x, proto_has p (n : Int) (l : Int) false = some x := by
        unfold proto_has
        simp only [getO_in hns, getO_in hls, getO_in hn, Option.bind_some]
        split
        · exact ⟨_, rfl⟩
        · simp only [Bool.false_eq_true, if_false]
          exact ⟨_, rfl⟩
      obtain ⟨x, hx⟩ := hh
      rw [hl]
      simp only [Option.bind_some, Bool.and_self, if_true, hx, Bool.not_true, Bool.false_eq_true, if_false, getO_in hnv, getO_in hlv]
      refine ⟨x, rfl, fun _ => ⟨trivial, hl'⟩, ?_⟩
      cases x
      · exact ⟨0, 8, rfl, by decide⟩
      · exact ⟨_, 0, rfl, by simp⟩
    · rw [Bool.eq_false_iff.2 hl]
      exact ⟨false, rfl, fun q => (by cases q), 0, 1, rfl, by decide⟩

noncomputable def hasB (p : Proto) (line : Int) (n : Nat) : Bool := (proto_Has p (n : Int) line false).getD false
noncomputable def whoS (p : Proto) (line : Int) (k : Nat) : List Int := ((List.range k).filter (hasB p line)).map fun n : Nat => (n : Int)
theorem whoS_len (p : Proto) (line : Int) (k : Nat) : (whoS p line k).length ≤ k := by
  unfold whoS
  rw [List.length_map]
  have := List.length_filter_le (hasB p line) (List.range k)
  rw [List.length_range] at this
  exact this
theorem whoS_mem {p : Proto} {line : Int} {k : Nat} {w : Int} (h : w ∈ whoS p line k) : ∃ n : Nat, w = (n : Int) ∧ n < k ∧ hasB p line n = true := by
  unfold whoS at h
  obtain ⟨n, hn, rfl⟩ := List.mem_map.1 h
  rw [List.mem_filter, List.mem_range] at hn
  exact ⟨n, rfl, hn.1, hn.2⟩
theorem whoS_any (p : Proto) (line : Int) (k n : Nat) (hn : n < k) : ((whoS p line k).any fun w => decide (w = (n : Int))) = hasB p line n := by
  rw [Bool.eq_iff_iff, List.any_eq_true]
  constructor
  · rintro ⟨w, hw, he⟩
    obtain ⟨m, rfl, hm, hh⟩ := whoS_mem hw
    have : m = n := by
      have := of_decide_eq_true he
      omega
    rw [← this]
    exact hh
  · intro h
    refine ⟨(n : Int), ?_, decide_eq_true rfl⟩
    unfold whoS
    exact List.mem_map.2 ⟨n, List.mem_filter.2 ⟨List.mem_range.2 hn, h⟩, rfl⟩

theorem who_eq {p : Proto} (hs : ShortP p) {b : Bool} (h : proto_Right p = some b) (hF : b = true → Formed p) (line : Int) : watch_Who p line = some (whoS p line (Proto.Wait p).length) := by
  unfold watch_Who
  have hw6 := hs.wait
  have lp := loop_good (f := watch_Who_L1 p line (List.length (Proto.Wait p) : Int)) (n := (Proto.Wait p).length) (e := whoS p line (Proto.Wait p).length) (fun i => ((i : Int), whoS p line i)) (fun i hi => by
    have hlt : (i : Int) < (List.length (Proto.Wait p) : Int) := by omega
    obtain ⟨x, hx, _⟩ := has_get h hF i hi line
    have hb : hasB p line i = x := by unfold hasB; rw [hx]; rfl
    have hwl := whoS_len p line i
    have ha : appO 8 (whoS p line i) ([(i : Int)] : List Int) = some (whoS p line i ++ [(i : Int)]) := appO_small (by simp; omega) (by omega)
    have hsu : whoS p line (i + 1) = if x = true then whoS p line i ++ [(i : Int)] else whoS p line i := by
      unfold whoS
      rw [List.range_succ, List.filter_append, List.map_append]
      cases x
      · rw [if_neg (by simp), List.filter_cons_of_neg (by rw [hb]; simp)]
        simp
      · rw [if_pos rfl, List.filter_cons_of_pos (by rw [hb])]
        simp
    unfold watch_Who_L1
    simp only [hlt, decide_true, if_true, hx, Option.bind_some, w64_succ (show i < 4611686018427387904 by omega), hsu]
    cases x
    · simp
    · simp [ha]) (by
    unfold watch_Who_L1
    simp only [show ¬ (List.length (Proto.Wait p) : Int) < (List.length (Proto.Wait p) : Int) by omega, decide_false, Bool.false_eq_true, if_false])
  rw [show whoS p line 0 = [] from rfl, show (((0 : Nat) : Int)) = 0 from rfl] at lp
  simp only [lp, Option.bind_some]

theorem alike_ends {p : Proto} (hs : ShortP p) {b : Bool} (h : proto_Right p = some b) (hF : b = true → Formed p) (line : Int) (h1 : 1 ≤ (whoS p line (Proto.Wait p).length).length) :
    ∃ x, watch_Alike p line = some x ∧ ((whoS p line (Proto.Wait p).length).length = 1 → x = true) := by
  have hw6 := hs.wait
  obtain ⟨who, hwho⟩ : ∃ who, who = whoS p line (Proto.Wait p).length := ⟨_, rfl⟩
  have hwl : who.length ≤ 6 := by have := whoS_len p line (Proto.Wait p).length; rw [hwho]; omega
  rw [← hwho] at h1
  have hmem : ∀ i (hi : i < who.length), ∃ n : Nat, who[i] = (n : Int) ∧ n < (Proto.Wait p).length ∧ hasB p line n = true := fun i hi => whoS_mem (by rw [← hwho]; exact List.getElem_mem hi)
  have hin : b = true ∧ 0 ≤ line ∧ line < ((Proto.Home p).length : Int) := by
    obtain ⟨n, n1, n2, n3⟩ := hmem 0 (by omega)
    obtain ⟨x, hx, hx2, _⟩ := has_get h hF n n2 line
    have hb : hasB p line n = x := by unfold hasB; rw [hx]; rfl
    rw [hb] at n3
    exact hx2 n3
  have F := hF hin.1
  obtain ⟨l, rfl⟩ : ∃ l : Nat, line = (l : Int) := ⟨line.toNat, by omega⟩
  have hval : ∀ i (hi : i < who.length), ∃ n : Nat, who[i] = (n : Int) ∧ ∃ (h1 : n < (Proto.Val p).length), l < ((Proto.Val p)[n]).length := fun i hi => by
    obtain ⟨n, n1, n2, n3⟩ := hmem i hi
    have hnv : n < (Proto.Val p).length := by have := F.val.1; omega
    have := F.val.2 _ (List.getElem_mem hnv)
    exact ⟨n, n1, hnv, by omega⟩
  obtain ⟨n0, z1, z2, z3⟩ := hval 0 (by omega)
  have hwt : watch_there p (l : Int) = some true := by
    rw [wthere_eq h, hin.1, within_iff.2 hin.2]
    rfl
  have step : ∀ i (hi : i < who.length), ∃ n : Nat, ∃ (h1 : n < (Proto.Val p).length) (h2 : l < ((Proto.Val p)[n]).length), who[i] = (n : Int) ∧ watch_Alike_L1 p (l : Int) who (List.length who : Int) (i : Int) = some (if decide (((Proto.Val p)[n])[l] = ((Proto.Val p)[n0])[l]) = true then .inl ((i + 1 : Nat) : Int) else .inr (.inr (i : Int))) := fun i hi => by
    obtain ⟨n, n1, n2, n3⟩ := hval i hi
    refine ⟨n, n2, n3, n1, ?_⟩
    have hlt : (i : Int) < (List.length who : Int) := by omega
    have hg0 : getO who (0 : Int) = some (n0 : Int) := by
      have := getO_in (l := who) (i := 0) (by omega)
      rw [z1] at this
      exact this
    unfold watch_Alike_L1
    simp only [hlt, decide_true, if_true, getO_in hi, n1, getO_in n2, getO_in n3, hg0, getO_in z2, getO_in z3, Option.bind_some, w64_succ (show i < 4611686018427387904 by omega)]
    cases decide (((Proto.Val p)[n])[l] = ((Proto.Val p)[n0])[l]) <;> rfl
  have out : watch_Alike_L1 p (l : Int) who (List.length who : Int) (who.length : Int) = some (.inr (.inl ())) := by
    unfold watch_Alike_L1
    simp only [show ¬ (List.length who : Int) < (List.length who : Int) by omega, decide_false, Bool.false_eq_true, if_false]
  unfold watch_Alike
  rw [hwt, who_eq hs h hF, ← hwho]
  simp only [Option.bind_some, Bool.not_true, Bool.false_eq_true, if_false]
  by_cases hone : who.length = 1
  · obtain ⟨n, n2, n3, n1, hst⟩ := step 0 (by omega)
    have : n = n0 := by
      rw [z1] at n1
      omega
    subst this
    rw [decide_eq_true rfl, if_pos rfl] at hst
    have out' : watch_Alike_L1 p (l : Int) who (List.length who : Int) ((0 + 1 : Nat) : Int) = some (.inr (.inl ())) := by
      rw [← out]; congr 1; omega
    have lp : loopD (watch_Alike_L1 p (l : Int) who (List.length who : Int)) (0 : Int) = some (.inl ()) := (loop_next hst).trans (loop_out out')
    refine ⟨true, ?_, fun _ => rfl⟩
    rw [lp]
    rfl
  · have lp := loop_ends (f := watch_Alike_L1 p (l : Int) who (List.length who : Int)) (n := who.length) (fun i hi => by
      obtain ⟨n, n2, n3, n1, hst⟩ := step i hi
      rw [hst]
      cases decide (((Proto.Val p)[n])[l] = ((Proto.Val p)[n0])[l])
      · exact .inr ⟨_, rfl⟩
      · exact .inl rfl) ⟨_, out⟩
    obtain ⟨c, hc⟩ := orExit_ends (k := fun _ : Unit => some ((-1 : Int))) lp fun _ => ⟨_, rfl⟩
    simp only [hc, Option.bind_some]
    exact ⟨_, rfl, fun q => absurd q hone⟩

/-! ### Short -/
theorem short_ends (p : Proto) : ∃ b, r10_Short p = some b ∧ (b = true → ShortP p) := by
  unfold r10_Short
  by_cases c1 : (6 : Int) < (List.length (Proto.State p) : Int)
  · simp only [c1, decide_true, if_true, Option.bind_some]; exact ⟨false, rfl, fun h => by cases h⟩
  by_cases c2 : (6 : Int) < (List.length (Proto.Val p) : Int)
  · simp only [c1, c2, decide_true, decide_false, Bool.false_eq_true, if_false, if_true, Option.bind_some]; exact ⟨false, rfl, fun h => by cases h⟩
  by_cases c3 : (6 : Int) < (List.length (Proto.Wait p) : Int)
  · simp only [c1, c2, c3, decide_true, decide_false, Bool.false_eq_true, if_false, if_true, Option.bind_some]; exact ⟨false, rfl, fun h => by cases h⟩
  by_cases c4 : (20 : Int) < (List.length (Proto.Home p) : Int)
  · simp only [c1, c2, c3, c4, decide_true, decide_false, Bool.false_eq_true, if_false, if_true, Option.bind_some]; exact ⟨false, rfl, fun h => by cases h⟩
  by_cases c5 : (20 : Int) < (List.length (Proto.Dir p) : Int)
  · simp only [c1, c2, c3, c4, c5, decide_true, decide_false, Bool.false_eq_true, if_false, if_true, Option.bind_some]; exact ⟨false, rfl, fun h => by cases h⟩
  by_cases c6 : (20 : Int) < (List.length (Proto.Busy p) : Int)
  · simp only [c1, c2, c3, c4, c5, c6, decide_true, decide_false, Bool.false_eq_true, if_false, if_true, Option.bind_some]; exact ⟨false, rfl, fun h => by cases h⟩
  have pf : ∃ b, r06_Short (Proto.Pool p) = some b ∧ (b = true → (Pool.Frames (Proto.Pool p)).length ≤ 80) := by
    unfold r06_Short
    by_cases c7 : (80 : Int) < (List.length (Pool.Frames (Proto.Pool p)) : Int)
    · simp only [c7, decide_true, if_true]; exact ⟨false, rfl, fun h => by cases h⟩
    · have lp := loop_ends (f := r06_Short_L1 (Proto.Pool p)) (n := (Pool.Frames (Proto.Pool p)).length) (fun i hi => by
        have hlt : (i : Int) < (List.length (Pool.Frames (Proto.Pool p)) : Int) := by omega
        unfold r06_Short_L1
        simp only [hlt, decide_true, if_true, getO_in hi, Option.bind_some, w64_succ (show i < 4611686018427387904 by omega)]
        split
        · exact .inr ⟨_, rfl⟩
        · exact .inl rfl) ⟨_, by
        unfold r06_Short_L1
        simp only [show ¬ (List.length (Pool.Frames (Proto.Pool p)) : Int) < (List.length (Pool.Frames (Proto.Pool p)) : Int) by omega, decide_false, Bool.false_eq_true, if_false]
        rfl⟩
      obtain ⟨b, hb⟩ := orExit_ends (k := fun _ : Unit => some true) lp fun _ => ⟨_, rfl⟩
      simp only [c7, decide_false, Bool.false_eq_true, if_false, hb]
      exact ⟨b, rfl, fun _ => by omega⟩
  obtain ⟨f, hf, hF⟩ := pf
  simp only [c1, c2, c3, c4, c5, c6, decide_false, Bool.false_eq_true, if_false, hf, Option.bind_some]
  cases f
  · exact ⟨false, rfl, fun h => by cases h⟩
  have S : ShortP p := ⟨by omega, by omega, by omega, by omega, hF rfl⟩
  simp only [Bool.not_true, Bool.false_eq_true, if_false]
  have q1 := loop_ends (f := r10_Short_L1 p) (n := (Proto.Dir p).length) (fun i hi => by
    have hlt : (i : Int) < (List.length (Proto.Dir p) : Int) := by omega
    unfold r10_Short_L1
    simp only [hlt, decide_true, if_true, getO_in hi, Option.bind_some, w64_succ (show i < 4611686018427387904 by omega)]
    split
    · exact .inr ⟨_, rfl⟩
    · exact .inl rfl) ⟨_, by
    unfold r10_Short_L1
    simp only [show ¬ (List.length (Proto.Dir p) : Int) < (List.length (Proto.Dir p) : Int) by omega, decide_false, Bool.false_eq_true, if_false]
    rfl⟩
  have q2 := loop_ends (f := r10_Short_L2 p) (n := (Proto.Val p).length) (fun i hi => by
    have hlt : (i : Int) < (List.length (Proto.Val p) : Int) := by omega
    unfold r10_Short_L2
    simp only [hlt, decide_true, if_true, getO_in hi, Option.bind_some, w64_succ (show i < 4611686018427387904 by omega)]
    split
    · exact .inr ⟨_, rfl⟩
    · exact .inl rfl) ⟨_, by
    unfold r10_Short_L2
    simp only [show ¬ (List.length (Proto.Val p) : Int) < (List.length (Proto.Val p) : Int) by omega, decide_false, Bool.false_eq_true, if_false]
    rfl⟩
  have q3 := loop_ends (f := r10_Short_L3 p) (n := (Proto.State p).length) (fun i hi => by
    have hlt : (i : Int) < (List.length (Proto.State p) : Int) := by omega
    unfold r10_Short_L3
    simp only [hlt, decide_true, if_true, getO_in hi, Option.bind_some, w64_succ (show i < 4611686018427387904 by omega)]
    split
    · exact .inr ⟨_, rfl⟩
    · exact .inl rfl) ⟨_, by
    unfold r10_Short_L3
    simp only [show ¬ (List.length (Proto.State p) : Int) < (List.length (Proto.State p) : Int) by omega, decide_false, Bool.false_eq_true, if_false]
    rfl⟩
  obtain ⟨b1, hb1⟩ := orExit_ends (k := fun _ : Unit => some true) q1 fun _ => ⟨_, rfl⟩
  obtain ⟨b2, hb2⟩ := orExit_ends (k := fun _ : Unit => orExit (loopD (r10_Short_L1 p) (0 : Int)) fun _ : Unit => some true) q2 fun _ => ⟨_, hb1⟩
  obtain ⟨b3, hb3⟩ := orExit_ends (k := fun _ : Unit => orExit (loopD (r10_Short_L2 p) (0 : Int)) fun _ : Unit => orExit (loopD (r10_Short_L1 p) (0 : Int)) fun _ : Unit => some true) q3 fun _ => ⟨_, hb2⟩
  exact ⟨b3, hb3, fun _ => S⟩

theorem watchWho_all (p : Proto) (line : Int) : l22_WatchWho p line = some true := by
  unfold l22_WatchWho
  obtain ⟨s, hs, hS⟩ := short_ends p
  rw [hs]
  cases s
  · rfl
  have S := hS rfl
  obtain ⟨b, hb, hF⟩ := right_ends S
  have hw6 := S.wait
  obtain ⟨who, hwho⟩ : ∃ who, who = whoS p line (Proto.Wait p).length := ⟨_, rfl⟩
  have hwl : who.length ≤ 6 := by have := whoS_len p line (Proto.Wait p).length; rw [hwho]; omega
  have inner : ∀ n : Nat, loopD (l22_WatchWho_L1 who (n : Int)) (false, (0 : Int)) = some (who.any fun w => decide (w = (n : Int))) := fun n => by
    have lp := loop_good (f := l22_WatchWho_L1 who (n : Int)) (n := who.length) (e := who.any fun w => decide (w = (n : Int))) (fun i => ((who.take i).any fun w => decide (w = (n : Int)), (i : Int))) (fun i hi => by
      have hlt : (i : Int) < (List.length who : Int) := by omega
      unfold l22_WatchWho_L1
      simp only [hlt, decide_true, if_true, getO_in hi, Option.bind_some, w64_succ (show i < 4611686018427387904 by omega), take_succ_get hi, List.any_append, List.any_cons, List.any_nil, Bool.or_false]
      cases (who.take i).any fun w => decide (w = (n : Int)) <;> rfl) (by
      unfold l22_WatchWho_L1
      simp only [show ¬ (who.length : Int) < (List.length who : Int) by omega, decide_false, Bool.false_eq_true, if_false, List.take_length])
    exact lp
  have lp := loop_good (f := l22_WatchWho_L2 p line who) (n := (Proto.Wait p).length) (e := (Sum.inl () : Unit ⊕ Bool)) (fun i => (i : Int)) (fun i hi => by
    have hlt : (i : Int) < (List.length (Proto.Wait p) : Int) := by omega
    obtain ⟨x, hx, _, v, c, hg, hc⟩ := has_get hb hF i hi line
    have hbx : hasB p line i = x := by unfold hasB; rw [hx]; rfl
    have ha : (who.any fun w => decide (w = (i : Int))) = decide (c = 0) := by
      rw [hwho, whoS_any p line _ i hi, hbx, Bool.eq_iff_iff, decide_eq_true_eq]
      exact hc.symm
    unfold l22_WatchWho_L2
    simp only [hlt, decide_true, if_true, inner i, hg, Option.bind_some, ha, Bool.not_true, Bool.false_eq_true, if_false, w64_succ (show i < 4611686018427387904 by omega)]) (by
    unfold l22_WatchWho_L2
    simp only [show ¬ (List.length (Proto.Wait p) : Int) < (List.length (Proto.Wait p) : Int) by omega, decide_false, Bool.false_eq_true, if_false])
  rw [show (((0 : Nat) : Int)) = 0 from rfl] at lp
  simp only [l22_awake, Bool.not_true, Bool.false_eq_true, if_false, Option.bind_some, who_eq S hb hF line, ← hwho, lp, orExit_inl]
  by_cases h0 : (who.length : Int) = 0
  · simp only [h0, decide_true, if_true, Option.bind_some]
  · obtain ⟨x, hx, hx1⟩ := alike_ends S hb hF line (by rw [← hwho]; omega)
    rw [← hwho] at hx1
    simp only [h0, decide_false, Bool.false_eq_true, if_false, hx, Option.bind_some]
    cases x
    · have : (1 : Int) < (who.length : Int) := by
        rcases Nat.lt_or_ge 1 who.length with q | q
        · omega
        · have := hx1 (by omega)
          cases this
      simp only [Bool.false_eq_true, if_false, this, decide_true, Option.bind_some]
    · rfl

theorem watchWho_ok (x : Ty.Tup F_l22_WatchWho.ps) (h : OkL F_l22_WatchWho.ps x) : F_l22_WatchWho.sem x = some true :=
  watchWho_all x.1 x.2

end Go.Proofs.Ytihchahfnhoapaa
