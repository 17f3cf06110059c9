/- Layer 21: what the functions tell, in plain words. No condition. -/
import Derived.Test.YtihchahfnhoapaaPG
import Derived.Test.YtihchahfnhoapaaD211
set_option linter.unusedSimpArgs false
set_option linter.unusedVariables false
namespace Go.Proofs.Ytihchahfnhoapaa
open Go.SX

/-! ### Deeds on a memory -/
def memN (mem : List Int) (a : Int) : Int := mem[a.toNat]?.getD 0
/-- Does a deed hold? -/
def doneB (mem : List Int) (d : Deed) : Bool := decide (0 ≤ Deed.Core d ∧ Deed.Core d < 4 ∧ 0 ≤ Deed.At d ∧ Deed.At d < (mem.length : Int) ∧ 1 ≤ Deed.Kind d ∧ Deed.Kind d ≤ 3) && (decide (memN mem (Deed.At d) = Deed.Was d) && (!decide (Deed.Kind d = 1) || decide (Deed.Val d = Deed.Was d)))
def putD (mem : List Int) (d : Deed) : List Int := mem.set (Deed.At d).toNat (Deed.Val d)
def memD (l : List Deed) (w : Nat) : Nat → List Int
  | 0 => List.replicate w 0
  | i + 1 => match l[i]? with | some d => putD (memD l w i) d | none => memD l w i
theorem memD_len (l : List Deed) (w : Nat) : ∀ i, (memD l w i).length = w
  | 0 => by simp [memD]
  | i + 1 => by
    simp only [memD]
    cases l[i]? with
    | none => exact memD_len l w i
    | some d => simp [putD, memD_len l w i]
theorem memD_succ {l : List Deed} {w i : Nat} (h : i < l.length) : memD l w (i + 1) = putD (memD l w i) l[i] := by simp only [memD, List.getElem?_eq_getElem h]
def okD (l : List Deed) (w : Nat) (i : Nat) : Bool := optT (doneB (memD l w i)) l[i]?

theorem done_eq (mem : List Int) (v8 : Deed) : (if decide ((Deed.Core v8) < (0 : Int)) then
            some (true)
          else
            if decide ((4 : Int) ≤ (Deed.Core v8)) then
              some (true)
            else
              if decide ((Deed.At v8) < (0 : Int)) then
                some (true)
              else
                if decide ((List.length mem : Int) ≤ (Deed.At v8)) then
                  some (true)
                else
                  if decide ((Deed.Kind v8) < (1 : Int)) then
                    some (true)
                  else
                    if decide ((3 : Int) < (Deed.Kind v8)) then
                      some (true)
                    else
                      (idxO (List.length mem : Int) (Deed.At v8)).bind fun v23 =>
                      (getO mem v23).bind fun v24 =>
                      if !decide (v24 = (Deed.Was v8)) then
                        some (true)
                      else
                        if decide ((Deed.Kind v8) = (1 : Int)) then
                          some ((!decide ((Deed.Val v8) = (Deed.Was v8))))
                        else
                          some (false) : Option Bool) = some (!doneB mem v8) := by
  unfold doneB
  by_cases h : 0 ≤ Deed.Core v8 ∧ Deed.Core v8 < 4 ∧ 0 ≤ Deed.At v8 ∧ Deed.At v8 < (mem.length : Int) ∧ 1 ≤ Deed.Kind v8 ∧ Deed.Kind v8 ≤ 3
  · obtain ⟨h1, h2, h3, h4, h5, h6⟩ := h
    have n1 : ¬ Deed.Core v8 < 0 := by omega
    have n2 : ¬ 4 ≤ Deed.Core v8 := by omega
    have n3 : ¬ Deed.At v8 < 0 := by omega
    have n4 : ¬ (mem.length : Int) ≤ Deed.At v8 := by omega
    have n5 : ¬ Deed.Kind v8 < 1 := by omega
    have n6 : ¬ 3 < Deed.Kind v8 := by omega
    have hl : (Deed.At v8).toNat < mem.length := by omega
    have hg : getO mem (Deed.At v8) = some (memN mem (Deed.At v8)) := by
      rw [getO_lt h3 h4, memN, List.getElem?_eq_getElem hl]
      rfl
    simp only [n1, n2, n3, n4, n5, n6, decide_false, Bool.false_eq_true, if_false, idxO_lt h3 h4, hg, Option.bind_some, h1, h2, h3, h4, h5, h6, and_self, decide_true, Bool.true_and]
    by_cases e1 : memN mem (Deed.At v8) = Deed.Was v8 <;> by_cases e2 : Deed.Kind v8 = 1 <;> simp [e1, e2]
  · rw [decide_eq_false h]
    by_cases n1 : Deed.Core v8 < 0
    · simp [n1]
    by_cases n2 : 4 ≤ Deed.Core v8
    · simp [n1, n2]
    by_cases n3 : Deed.At v8 < 0
    · simp [n1, n2, n3]
    by_cases n4 : (mem.length : Int) ≤ Deed.At v8
    · simp [n1, n2, n3, n4]
    by_cases n5 : Deed.Kind v8 < 1
    · simp [n1, n2, n3, n4, n5]
    by_cases n6 : 3 < Deed.Kind v8
    · simp [n1, n2, n3, n4, n5, n6]
    · omega

theorem doneB_at {mem : List Int} {d : Deed} (h : doneB mem d = true) : 0 ≤ Deed.At d ∧ Deed.At d < (mem.length : Int) := by
  unfold doneB at h
  simp only [Bool.and_eq_true, decide_eq_true_eq] at h
  exact ⟨h.1.2.2.1, h.1.2.2.2.1⟩

abbrev goodW (w : Int) : Prop := 1 ≤ w ∧ w ≤ 64
theorem bad_iff {w : Int} : badWords w = true ↔ ¬ goodW w := by
  unfold badWords
  simp only [Bool.or_eq_true, decide_eq_true_eq]
  omega
def firstD (l : List Deed) (w : Nat) : Nat := firstI (okD l w) l.length
def firstS (l : List Deed) (w : Int) : Int := if 1 ≤ w ∧ w ≤ 64 then (firstD l w.toNat : Int) else 0

theorem made_mem {w : Nat} (h : goodW (w : Int)) : (if (decide ((w : Int) < (1 : Int))) || (decide ((64 : Int) < (w : Int))) then some (([] : List Int)) else (repO (0 : Int) 4 (w : Int) (w : Int)).bind fun v3 => some (v3) : Option (List Int)) = some (List.replicate w 0) := by
  have n1 : ¬ (w : Int) < 1 := by omega
  have n2 : ¬ (64 : Int) < (w : Int) := by omega
  simp [n1, n2, repO_small (show w ≤ 1000000 by omega) (show 4 ≤ 10000 by omega)]

theorem trace_First_eq (l : List Deed) (hl : l.length ≤ 1000) (w : Int) : trace_First l w = some (firstS l w) := by
  unfold trace_First firstS
  by_cases hb : goodW w
  · have hb' : ¬ badWords w = true := fun h => bad_iff.1 h hb
    rw [if_neg hb', if_pos hb]
    obtain ⟨n, rfl⟩ : ∃ n : Nat, w = (n : Int) := ⟨w.toNat, by omega⟩
    unfold trace_First0
    rw [made_mem hb]
    have hn : 0 < n := by omega
    have hnil : isnilO (List.replicate n (0 : Int)) = some false := by
      cases n with
      | zero => omega
      | succ n => rfl
    have lp := loop_first (f := trace_First0_L1 l (List.length l : Int)) (n := l.length) (fun i => ((i : Int), memD l n i)) (okD l n) (e := .inl ()) (r := fun i => .inr (i : Int)) (fun i hi _ => by
      have hlt : (i : Int) < (List.length l : Int) := by omega
      unfold trace_First0_L1
      simp only [hlt, decide_true, if_true, getO_in hi, Option.bind_some, w64_succ (show i < 4611686018427387904 by omega)]
      rw [done_eq]
      unfold okD
      rw [optT_in hi, memD_succ hi]
      cases hd : doneB (memD l n i) l[i] with
      | false => simp
      | true =>
        obtain ⟨a1, a2⟩ := doneB_at hd
        simp [idxO_lt a1 a2, setO_lt a1 a2, putD]) (fun _ => by
      unfold trace_First0_L1
      simp)
    rw [show memD l n 0 = List.replicate n 0 from rfl] at lp
    rw [show ((0 : Nat) : Int) = 0 from rfl] at lp
    have hle := (firstI_facts (okD l n) l.length).1
    simp only [Option.bind_some, hnil, Bool.false_eq_true, if_false, lp, Int.toNat_natCast]
    unfold firstD
    by_cases hf : firstI (okD l n) l.length < l.length
    · have : ¬ (firstI (okD l n) l.length : Int) < 0 := by omega
      simp [hf, this]
    · have : firstI (okD l n) l.length = l.length := by omega
      simp [this]
  · rw [if_pos (bad_iff.2 hb), if_neg hb]

/-- Do all hold? -/
def holdsS (l : List Deed) (w : Int) : Bool := decide (1 ≤ w ∧ w ≤ 64) && decide (firstD l w.toNat = l.length)
theorem trace_Holds_eq (l : List Deed) (hl : l.length ≤ 1000) (w : Int) : trace_Holds l w = some (holdsS l w) := by
  unfold trace_Holds holdsS
  by_cases hb : goodW w
  · have hb' : ¬ badWords w = true := fun h => bad_iff.1 h hb
    rw [if_neg hb', decide_eq_true (show 1 ≤ w ∧ w ≤ 64 from hb)]
    obtain ⟨n, rfl⟩ : ∃ n : Nat, w = (n : Int) := ⟨w.toNat, by omega⟩
    unfold trace_Holds0
    rw [made_mem hb, trace_First_eq l hl]
    have hn : 0 < n := by omega
    have hnil : isnilO (List.replicate n (0 : Int)) = some false := by
      cases n with
      | zero => omega
      | succ n => rfl
    unfold firstS
    rw [if_pos (show 1 ≤ (n : Int) ∧ (n : Int) ≤ 64 from hb)]
    simp only [Option.bind_some, hnil, Bool.not_false, if_true, Int.toNat_natCast, Bool.true_and]
    congr 1
    rw [Bool.eq_iff_iff]
    simp only [decide_eq_true_eq]
    omega
  · rw [if_pos (bad_iff.2 hb), decide_eq_false (show ¬ (1 ≤ w ∧ w ≤ 64) from hb)]
    rfl

def afterS (l : List Deed) (w : Int) : List Int × Int := if holdsS l w = true then (memD l w.toNat l.length, 0) else ([], 1)
theorem trace_After_eq (l : List Deed) (hl : l.length ≤ 1000) (w : Int) : trace_After l w = some (afterS l w) := by
  unfold trace_After afterS
  rw [trace_Holds_eq l hl]
  cases hh : holdsS l w with
  | false => simp
  | true =>
    have hh' := hh
    unfold holdsS at hh'
    simp only [Bool.and_eq_true, decide_eq_true_eq] at hh'
    obtain ⟨hb, hf⟩ := hh'
    obtain ⟨n, rfl⟩ : ∃ n : Nat, w = (n : Int) := ⟨w.toNat, by omega⟩
    simp only [Int.toNat_natCast] at hf
    have hall := firstI_all.1 hf
    have lp := loop_good (f := trace_After_L1 l (List.length l : Int)) (n := l.length) (e := memD l n l.length) (fun i => ((i : Int), memD l n i)) (fun i hi => by
      have hlt : (i : Int) < (List.length l : Int) := by omega
      have ho := hall i hi
      unfold okD at ho
      rw [optT_in hi] at ho
      obtain ⟨a1, a2⟩ := doneB_at ho
      unfold trace_After_L1
      simp only [hlt, decide_true, if_true, getO_in hi, Option.bind_some, w64_succ (show i < 4611686018427387904 by omega)]
      rw [done_eq, memD_succ hi, ho]
      simp [idxO_lt a1 a2, setO_lt a1 a2, putD]) (by
      unfold trace_After_L1
      simp)
    rw [show memD l n 0 = List.replicate n 0 from rfl] at lp
    rw [show ((0 : Nat) : Int) = 0 from rfl] at lp
    simp only [Option.bind_some, Bool.not_true, Bool.false_eq_true, if_false, made_mem (show goodW (n : Int) from hb), lp, if_true, Int.toNat_natCast]

/-! ### The last writer -/
def wr (d : Deed) : Bool := decide (Deed.Kind d = 2) || decide (Deed.Kind d = 3)
def lastW (l : List Deed) (a : Int) : Nat → Int
  | 0 => -1
  | i + 1 => match l[i]? with | some d => bif wr d && decide (Deed.At d = a) then (i : Int) else lastW l a i | none => lastW l a i
theorem lastW_succ {l : List Deed} {a : Int} {i : Nat} (h : i < l.length) : lastW l a (i + 1) = bif wr l[i] && decide (Deed.At l[i] = a) then (i : Int) else lastW l a i := by simp only [lastW, List.getElem?_eq_getElem h]
theorem lastW_in (l : List Deed) (a : Int) : ∀ i, -1 ≤ lastW l a i ∧ lastW l a i < (i : Int)
  | 0 => by simp [lastW]
  | i + 1 => by
    obtain ⟨h1, h2⟩ := lastW_in l a i
    simp only [lastW]
    cases l[i]? with
    | none => simp only; omega
    | some d =>
      simp only
      cases wr d && decide (Deed.At d = a) <;> simp <;> omega

/-- What a deed finds there, if all ahead of it hold. -/
def wasW (l : List Deed) (a : Int) (i : Nat) : Int := if 0 ≤ lastW l a i then (match l[(lastW l a i).toNat]? with | some d => Deed.Val d | none => 0) else 0
theorem memD_was {l : List Deed} {w : Nat} : ∀ i, i ≤ l.length → (∀ j, j < i → okD l w j = true) → ∀ a : Int, 0 ≤ a → a < (w : Int) → memN (memD l w i) a = wasW l a i
  | 0, _, _, a, h0, ha => by
    have : a.toNat < w := by omega
    simp [memN, memD, wasW, lastW, this]
  | i + 1, hi, hp, a, h0, ha => by
    have hil : i < l.length := by omega
    have ih := memD_was (w := w) i (by omega) (fun j hj => hp j (by omega)) a h0 ha
    have ho := hp i (by omega)
    unfold okD at ho
    rw [optT_in hil] at ho
    obtain ⟨a1, a2⟩ := doneB_at ho
    have hlen := memD_len l w i
    rw [memD_succ hil]
    unfold wasW at ih ⊢
    rw [lastW_succ hil]
    by_cases hat : Deed.At l[i] = a
    · have hn : (Deed.At l[i]).toNat < (memD l w i).length := by omega
      have hv : memN (putD (memD l w i) l[i]) a = Deed.Val l[i] := by
        unfold memN putD
        rw [← hat, List.getElem?_set_self hn]
        rfl
      rw [hv]
      unfold doneB at ho
      simp only [Bool.and_eq_true, decide_eq_true_eq, Bool.or_eq_true, Bool.not_eq_true', decide_eq_false_iff_not] at ho
      cases hw : wr l[i] with
      | true =>
        have h1 : (0 : Int) ≤ (i : Int) := by omega
        simp [hat, h1, hil]
      | false =>
        unfold wr at hw
        simp only [Bool.or_eq_false_iff, decide_eq_false_iff_not] at hw
        have hk : Deed.Kind l[i] = 1 := by omega
        have hvw : Deed.Val l[i] = Deed.Was l[i] := by
          rcases ho.2.2 with h | h
          · exact absurd hk h
          · exact h
        simp only [Bool.false_and, cond_false]
        rw [hvw, ← ho.2.1, hat]
        exact ih
    · have hne : ¬ (Deed.At l[i]).toNat = a.toNat := by omega
      have hv : memN (putD (memD l w i) l[i]) a = memN (memD l w i) a := by
        unfold memN putD
        rw [List.getElem?_set_ne hne]
      rw [hv]
      simp only [hat, decide_false, Bool.and_false, cond_false]
      exact ih

theorem lastW_append (l m : List Deed) (a : Int) : ∀ i, i ≤ l.length → lastW (l ++ m) a i = lastW l a i
  | 0, _ => rfl
  | i + 1, hi => by
    have ih := lastW_append l m a i (by omega)
    rw [lastW_succ (show i < (l ++ m).length by rw [List.length_append]; omega), lastW_succ (show i < l.length by omega), List.getElem_append_left (show i < l.length by omega), ih]

/-! ### Sees -/
def decI : DecidableEq Int := Ty.dec (.int .i64)
def mapL (l : List Deed) : Nat → List (Int × Int)
  | 0 => []
  | i + 1 => match l[i]? with | some d => bif wr d then mputT decI (Deed.At d) (i : Int) (mapL l i) else mapL l i | none => mapL l i
theorem mapL_get' (l : List Deed) (a : Int) : ∀ i, (bif !(mhasT decI (mapL l i) a) then (-1 : Int) else mgetT decI (0 : Int) (mapL l i) a) = lastW l a i
  | 0 => rfl
  | i + 1 => by
    have ih := mapL_get' l a i
    simp only [mapL, lastW]
    cases hx : l[i]? with
    | none => exact ih
    | some d =>
      simp only
      cases hw : wr d with
      | false => simpa [hw] using ih
      | true =>
        simp only [cond_true, Bool.true_and]
        rw [mhas_put, mget_put]
        by_cases e : a = Deed.At d
        · have e1 : @decide (a = Deed.At d) (decI a (Deed.At d)) = true := decide_eq_true e
          rw [e1]
          simp [e]
        · have e1 : @decide (a = Deed.At d) (decI a (Deed.At d)) = false := decide_eq_false e
          rw [e1]
          have e2 : ¬ Deed.At d = a := fun h => e h.symm
          simpa [e2] using ih
theorem mapL_get (l : List Deed) (a : Int) (i : Nat) : (bif !(mhasT (Ty.dec (.int .i64)) (mapL l i) a) then (-1 : Int) else mgetT (Ty.dec (.int .i64)) (0 : Int) (mapL l i) a) = lastW l a i := mapL_get' l a i
def seesS (l : List Deed) (i : Nat) : List Int := (List.range i).map fun j => optV (fun d => lastW l (Deed.At d) j) l[j]?
where optV (f : Deed → Int) : Option Deed → Int | some d => f d | none => 0
theorem trace_Sees_eq (l : List Deed) (hl : l.length ≤ 1000) : trace_Sees l = some (seesS l l.length) := by
  unfold trace_Sees
  have lp := loop_good (f := trace_Sees_L1 l (List.length l : Int)) (n := l.length) (e := seesS l l.length) (fun i => ((i : Int), mapL l i, seesS l i)) (fun i hi => by
    have hlt : (i : Int) < (List.length l : Int) := by omega
    have hsl : (seesS l i).length = i := by simp [seesS]
    have happ : ∀ v : Int, appO 8 (seesS l i) ([v] : List Int) = some (seesS l i ++ [v]) := fun v => appO_small (by simp [hsl]; omega) (by omega)
    have hs : seesS l (i + 1) = seesS l i ++ [lastW l (Deed.At l[i]) i] := by
      unfold seesS
      rw [List.range_succ, List.map_append, List.map_cons, List.map_nil, List.getElem?_eq_getElem hi]
      rfl
    have hm : mapL l (i + 1) = bif (decide ((Deed.Kind l[i]) = (2 : Int))) || (decide ((Deed.Kind l[i]) = (3 : Int))) then mputT (Ty.dec (.int .i64)) (Deed.At l[i]) (i : Int) (mapL l i) else mapL l i := by
      simp only [mapL, List.getElem?_eq_getElem hi]
      rfl
    unfold trace_Sees_L1
    simp only [hlt, decide_true, if_true, getO_in hi, Option.bind_some, mapL_get, happ, w64_succ (show i < 4611686018427387904 by omega), hs, hm]
    rfl) (by
    unfold trace_Sees_L1
    simp)
  rw [show mapL l 0 = [] from rfl, show seesS l 0 = [] from rfl, show ((0 : Nat) : Int) = 0 from rfl] at lp
  simp only [lp, Option.bind_some]

/-! ### Same -/
/-! ### Of -/
def ofS (l : List Deed) (n : Int) : List Deed := l.filter fun d => decide (Deed.Core d = n)
theorem trace_Of_eq (l : List Deed) (hl : l.length ≤ 1000) (n : Int) : trace_Of l n = some (ofS l n) := by
  unfold trace_Of ofS
  rw [cloneO_small (by omega) (by omega)]
  have lp := loop_index (f := trace_Of_L2 n l (List.length l : Int)) (n := l.length) (fun i => (i : Int)) (fun i => optT (fun d => decide (Deed.Core d = n)) l[i]?) (e := .inl ()) (r := fun i => .inr (i : Int)) (fun i hi _ => by
    have hlt : (i : Int) < (List.length l : Int) := by omega
    unfold trace_Of_L2
    simp only [hlt, decide_true, if_true, idxO_in hi, getO_in hi, Option.bind_some, w64_succ (show i < 4611686018427387904 by omega), optT_in hi]
    by_cases e1 : Deed.Core l[i] = n <;> simp [e1]) (fun _ => by
    unfold trace_Of_L2
    simp)
  rw [show ((0 : Nat) : Int) = 0 from rfl] at lp
  rcases lp with ⟨hall, hlp⟩ | ⟨k, hk, hbad, hpre, hlp⟩
  · have hself : l.filter (fun d => decide (Deed.Core d = n)) = l := by
      rw [List.filter_eq_self]
      intro u hu
      obtain ⟨i, hi, rfl⟩ := List.getElem_of_mem hu
      have := hall i hi
      rwa [optT_in hi] at this
    have hsub : subO l (0 : Int) (List.length l : Int) = some l := by
      have := subO_in (l := l) (i := 0) (j := l.length) (by omega) (by omega)
      rw [List.drop_zero, List.take_length] at this
      exact this
    simp only [Option.bind_some, hlp, orExit_inl, decide_true, if_true, hsub, hself]
  · rw [optT_in hk] at hbad
    obtain ⟨i, m, hlo, him, hml, htk⟩ := del_loop (f := trace_Of_L1 n) (l := l) (keep := fun d => decide (Deed.Core d = n)) (fun i j m hj hij hm => by
      have hlt : (j : Int) < (List.length m : Int) := by omega
      unfold trace_Of_L1
      simp only [hlt, decide_true, if_true, idxO_in hj, getO_in hj, Option.bind_some, w64_succ (show j < 4611686018427387904 by omega)]
      have him : i < m.length := by omega
      by_cases e1 : Deed.Core m[j] = n
      · simp [e1, idxO_in him, setO_in him, w64_succ (show i < 4611686018427387904 by omega)]
      · simp [e1]) (fun i m hm => by
      unfold trace_Of_L1
      simp) hk (fun i hi hik => by
      have := hpre i hik
      rwa [optT_in hi] at this) hbad
    have hk1 : ¬ (k : Int) = -1 := by omega
    have hsub : subO (m.take i ++ List.replicate (m.length - i) (Deed.mk 0 0 0 0 0)) (0 : Int) (i : Int) = some (m.take i) := by
      have hl : (m.take i ++ List.replicate (m.length - i) (Deed.mk 0 0 0 0 0)).length = m.length := by simp; omega
      have := subO_in (l := m.take i ++ List.replicate (m.length - i) (Deed.mk 0 0 0 0 0)) (i := 0) (j := i) (by omega) (by omega)
      rw [List.drop_zero, del_take him] at this
      exact this
    simp only [Option.bind_some, hlp, orExit_inr, hk1, decide_false, Bool.false_eq_true, if_false, w64_succ (show k < 4611686018427387904 by omega), hlo]
    rw [del_tail him]
    simp only [Option.bind_some, hsub]
    rw [htk]
/-! ### Mix -/
def mixS : List Bool → List Deed → List Deed → List Deed
  | [], a, b => a ++ b
  | t :: ts, a, b => match t with
    | true => match b with
      | [] => mixS ts a []
      | y :: b => y :: mixS ts a b
    | false => match a with
      | [] => mixS ts [] b
      | x :: a => x :: mixS ts a b

end Go.Proofs.Ytihchahfnhoapaa
