/- Layer 11: the law UndoBack on typed data. No condition. -/
import Derived.Test.YtklkpogdghiagaaP11e
import Derived.Test.YtklkpogdghiagaaD114
set_option linter.unusedSimpArgs false
set_option linter.unusedVariables false
namespace Go.Proofs.Ytklkpogdghiagaa
open Go.SX

/-- What holds behind whatever was done: k things, words n, the eldest interval to go back to, and the memories then. -/
structure BackI (k n : Nat) (first : Nat) (m : Log) (was : List (List Int)) : Prop where
  right : RightP m
  len : (Log.Mem m).length = n
  low : (first : Int) ≤ Log.Span m
  span : Log.Span m ≤ (k : Int)
  lst : (Log.Lst m).length ≤ k
  wasl : Log.Span m + 1 ≤ (was.length : Int)
  wask : was.length ≤ k + 1
  key : ∀ t : Nat, first ≤ t → (t : Int) ≤ Log.Span m → was[t]? = some (restore m (t : Int))

theorem restore_len (l : Log) (t : Int) : (restore l t).length = (Log.Mem l).length := foldB_len _ _

theorem backI_new {n : Nat} (h1 : 1 ≤ n) (h2 : n ≤ 64) : BackI 0 n 0 (Log.mk (List.replicate n 0) 0 []) [List.replicate n 0] where
  right := right_new h1 h2
  len := by simp
  low := by simp
  span := by simp
  lst := by simp
  wasl := by simp
  wask := by simp
  key := fun t h3 h4 => by
    simp only [Log.Span_mk] at h4
    have : t = 0 := by omega
    subst this
    rfl

theorem backI_write {k n first : Nat} {m : Log} {was : List (List Int)} (I : BackI k n first m was) (hk : k < 200) (a w : Int) (h0 : 0 ≤ a) (ha : a < (n : Int)) : ∃ m', writeS m a w = (m', 0) ∧ BackI (k + 1) n first m' was ∧ (Log.Mem m')[a.toNat]? = some w ∧ (Log.Mem m').length = n := by
  have hl := I.len
  have hlst := I.lst
  obtain ⟨L, e1, e2, e3⟩ := write_ok I.right (a := a) (w := w) h0 (by omega) (by omega)
  have hat : a.toNat < (Log.Mem m).length := by omega
  refine ⟨_, e1, ⟨e2, by simpa using hl, I.low, ?_, ?_, I.wasl, by have := I.wask; omega, fun t h1 h2 => ?_⟩, by simp only [Log.Mem_mk]; exact List.getElem?_set_self hat, by simpa using hl⟩
  · have := I.span
    simp only [Log.Span_mk]
    omega
  · simp only [Log.Lst_mk]
    rcases e3 with ⟨_, e⟩ | ⟨_, e⟩ <;> rw [e]
    · omega
    · rw [List.length_append]
      simp
      omega
  · rw [I.key t h1 h2]
    congr 1
    simp only [Log.Span_mk] at h2
    rcases e3 with ⟨hu, e⟩ | ⟨hu, e⟩
    · subst e
      unfold restore
      simp only [Log.Lst_mk, Log.Mem_mk]
      refine List.ext_getElem? fun i => ?_
      rcases Nat.lt_or_ge i (Log.Mem m).length with hi | hi
      · have hpos : ∀ u ∈ (Log.Lst m).filter (goes (t : Int)), 0 ≤ Undo.At u := fun u hu => (I.right.each u (List.mem_filter.1 hu).1).2.2.1
        rw [foldB_get _ i hi _ hpos, foldB_get _ i (by simpa using hi) _ hpos]
        cases hf : ((Log.Lst m).filter (goes (t : Int))).find? (fun u => decide (Undo.At u = (i : Int))) with
        | some u => rfl
        | none =>
          have hne : ¬ a.toNat = i := fun e => by
            obtain ⟨u, hum, hus, hua⟩ := hasU_true.1 hu
            have hin : u ∈ (Log.Lst m).filter (goes (t : Int)) := List.mem_filter.2 ⟨hum, by unfold goes; simp; omega⟩
            have := List.find?_eq_none.1 hf u hin
            simp only [decide_eq_true_eq] at this
            omega
          simp only [List.getElem?_set_ne hne]
      · rw [List.getElem?_eq_none (by rw [foldB_len]; exact hi), List.getElem?_eq_none (by rw [foldB_len]; simpa using hi)]
    · subst e
      unfold restore
      simp only [Log.Lst_mk, Log.Mem_mk, List.filter_append]
      have hg : goes (t : Int) (Undo.mk (Log.Span m) a (memAt m a)) = true := decide_eq_true h2
      rw [List.filter_cons, if_pos hg, List.filter_nil, List.foldr_append]
      congr 1
      simp only [List.foldr_cons, List.foldr_nil, putB, Undo.At_mk, Undo.Val_mk, List.set_set]
      unfold memAt
      rw [List.getElem?_eq_getElem hat]
      simp

theorem backI_next {k n first : Nat} {m : Log} {was : List (List Int)} (I : BackI k n first m was) (hk : k < 200) : nextS m = (Log.mk (Log.Mem m) (Log.Span m + 1) (Log.Lst m), 0) ∧ BackI (k + 1) n first (Log.mk (Log.Mem m) (Log.Span m + 1) (Log.Lst m)) (was.take (Log.Span m + 1).toNat ++ [Log.Mem m]) := by
  have hsp := I.span
  have hsz := I.right.size
  unfold sizeS at hsz
  have hwl := I.wasl
  have hwk := I.wask
  have hfi := I.low
  have htl : (was.take (Log.Span m + 1).toNat).length = (Log.Span m + 1).toNat := by rw [List.length_take]; omega
  constructor
  · unfold nextS
    rw [if_pos ⟨right_iff.2 I.right, by omega⟩]
  · refine ⟨right_next I.right (by omega), I.len, by simp only [Log.Span_mk]; omega, by simp only [Log.Span_mk]; omega, by have := I.lst; simp only [Log.Lst_mk]; omega, ?_, ?_, fun t h1 h2 => ?_⟩
    · simp only [Log.Span_mk]
      rw [List.length_append, htl]
      simp
      omega
    · rw [List.length_append, htl]
      simp
      omega
    · simp only [Log.Span_mk] at h2
      rcases Nat.lt_or_ge t (Log.Span m + 1).toNat with h3 | h3
      · rw [List.getElem?_append_left (by rw [htl]; exact h3), List.getElem?_take_of_lt h3, I.key t h1 (by omega)]
        rfl
      · have ht : (t : Int) = Log.Span m + 1 := by omega
        rw [List.getElem?_append_right (by rw [htl]; exact h3), htl, show t - (Log.Span m + 1).toNat = 0 by omega]
        have : (Log.Lst m).filter (goes (t : Int)) = [] := by
          rw [List.filter_eq_nil_iff]
          intro u hu
          have := (I.right.each u hu).2.1
          unfold goes
          simp
          omega
        unfold restore
        simp only [Log.Lst_mk, Log.Mem_mk, this]
        rfl

theorem filter_goes_split {l : Log} (h : rightS l = true) {t s : Int} (hts : t ≤ s) : (Log.Lst l).filter (goes t) = ((Log.Lst l).filter (stays s)).filter (goes t) ++ (Log.Lst l).filter (goes s) := by
  have h1 := log_split h s
  have h2 : ((Log.Lst l).filter (goes s)).filter (goes t) = (Log.Lst l).filter (goes s) := by
    rw [List.filter_eq_self]
    intro u hu
    have := (List.mem_filter.1 hu).2
    unfold goes at this ⊢
    simp only [decide_eq_true_eq] at this ⊢
    omega
  have h3 : (Log.Lst l).filter (goes t) = ((Log.Lst l).filter (stays s) ++ (Log.Lst l).filter (goes s)).filter (goes t) := congrArg (List.filter (goes t)) h1
  rw [h3, List.filter_append, h2]

theorem backI_back {k n first : Nat} {m : Log} {was : List (List Int)} (I : BackI k n first m was) (hk : k < 200) (to : Nat) (h1 : first ≤ to) (h2 : (to : Int) ≤ Log.Span m) :
    backS m (to : Int) = (Log.mk (restore m (to : Int)) (to : Int) ((Log.Lst m).filter (stays (to : Int))), 0) ∧ BackI (k + 1) n first (Log.mk (restore m (to : Int)) (to : Int) ((Log.Lst m).filter (stays (to : Int)))) was := by
  have hsp := I.span
  have hwl := I.wasl
  have hr := right_iff.2 I.right
  constructor
  · unfold backS
    rw [if_pos ⟨hr, by omega, h2⟩]
  · have h3 := List.length_filter_le (stays (to : Int)) (Log.Lst m)
    have h4 := I.lst
    refine ⟨right_filter I.right _ (restore_len m _) (by omega) h2 (fun u _ hp => ?_), ?_, ?_, ?_, ?_, ?_, by have := I.wask; omega, fun t g1 g2 => ?_⟩
    · unfold stays at hp
      simp only [decide_eq_true_eq] at hp
      omega
    · simp only [Log.Mem_mk, restore_len]
      exact I.len
    · simp only [Log.Span_mk]; omega
    · simp only [Log.Span_mk]; omega
    · simp only [Log.Lst_mk]; omega
    · simp only [Log.Span_mk]; omega
    · simp only [Log.Span_mk] at g2
      rw [I.key t g1 (by omega)]
      congr 1
      unfold restore
      simp only [Log.Lst_mk, Log.Mem_mk]
      rw [filter_goes_split hr g2, List.foldr_append]

theorem backI_trim {k n first : Nat} {m : Log} {was : List (List Int)} (I : BackI k n first m was) (hk : k < 200) (fr : Nat) (h1 : first ≤ fr) (h2 : (fr : Int) ≤ Log.Span m) :
    trimS m (fr : Int) = (Log.mk (Log.Mem m) (Log.Span m) ((Log.Lst m).filter (goes (fr : Int))), 0) ∧ BackI (k + 1) n fr (Log.mk (Log.Mem m) (Log.Span m) ((Log.Lst m).filter (goes (fr : Int)))) was := by
  have hsp := I.span
  have hsz := I.right.size
  unfold sizeS at hsz
  have hr := right_iff.2 I.right
  constructor
  · unfold trimS
    rw [if_pos ⟨hr, by omega, h2⟩]
  · have h3 := List.length_filter_le (goes (fr : Int)) (Log.Lst m)
    have h4 := I.lst
    refine ⟨right_filter I.right _ rfl (by omega) (Int.le_refl _) (fun u hu _ => (I.right.each u hu).2.1), I.len, h2, by simp only [Log.Span_mk]; omega, by simp only [Log.Lst_mk]; omega, I.wasl, by have := I.wask; omega, fun t g1 g2 => ?_⟩
    rw [I.key t (by omega) g2]
    congr 1
    unfold restore
    simp only [Log.Lst_mk, Log.Mem_mk, List.filter_filter]
    congr 1
    refine List.filter_congr fun u hu => ?_
    unfold goes
    rw [Bool.eq_iff_iff]
    simp only [Bool.and_eq_true, decide_eq_true_eq]
    omega

theorem r04_Words_refl (l : List Int) (h : l.length ≤ 1000) : r04_Words l l = some true := by
  unfold r04_Words
  have lp := loop_good (f := r04_Words_L1 l l) (n := l.length) (e := .inl ()) (fun i => (i : Int)) (fun i hi => by
    have hlt : (i : Int) < (List.length l : Int) := by omega
    unfold r04_Words_L1
    simp [hlt, getO_in hi, w64_succ (show i < 4611686018427387904 by omega)]) (by
    unfold r04_Words_L1
    simp)
  rw [show ((0 : Nat) : Int) = 0 from rfl] at lp
  simp [lp]

theorem room_le {m m' : Log} (h : rightS m = true) (h' : rightS m' = true) (hl : (Log.Lst m').length ≤ (Log.Lst m).length) : ¬ roomS m' < roomS m := by
  unfold roomS
  rw [if_pos h, if_pos h']
  omega

theorem undoBack_all (words : Int) (l : List l11_Do) (hw : 0 ≤ words ∧ words < 256) (hd : ∀ d ∈ l, (0 ≤ l11_Do.Kind d ∧ l11_Do.Kind d < 256) ∧ (0 ≤ l11_Do.At d ∧ l11_Do.At d < 256) ∧ (0 ≤ l11_Do.To d ∧ l11_Do.To d < 256)) : l11_UndoBack words l = some true := by
  unfold l11_UndoBack
  obtain ⟨r1, r2, r3⟩ := rem_pos (a := words) (n := 16) hw.1 (by omega)
  obtain ⟨q, hq⟩ : ∃ q : Nat, words % 16 = (q : Int) := ⟨(words % 16).toNat, by omega⟩
  have hw2 : w64 (w64 (q : Int) + 1) = ((q + 1 : Nat) : Int) := by rw [w64_nat (by omega), w64_succ (by omega)]
  have hnew : newS ((q + 1 : Nat) : Int) = (Log.mk (List.replicate (q + 1) 0) 0 [], 0) := by
    unfold newS
    rw [if_pos (by omega)]
    simp
  rw [hq] at r1
  have happ : appO 4 ([] : List Int) (List.replicate (q + 1) 0) = some (List.replicate (q + 1) 0) := appO_small (by simp; omega) (by omega)
  have lp := loop_rule (f := l11_UndoBack_L1 l ((q + 1 : Nat) : Int)) (fun s => ∃ (i first : Nat) (m : Log) (was : List (List Int)), s = ((first : Int), (i : Int), m, was) ∧ i ≤ l.length ∧ i ≤ 100 ∧ BackI i (q + 1) first m was) (fun s => l.length - s.2.1.toNat) (fun r => r = .inl ()) (fun s hs => by
    obtain ⟨i, first, m, was, rfl, hi, hi2, I⟩ := hs
    unfold l11_UndoBack_L1
    by_cases hgo : i < l.length ∧ i < 100
    · left
      obtain ⟨hil, hi100⟩ := hgo
      have hlt1 : (i : Int) < (l.length : Int) := by omega
      have hlt2 : (i : Int) < 100 := by omega
      obtain ⟨⟨k1, k2⟩, ⟨a1, a2⟩, ⟨t1, t2⟩⟩ := hd _ (List.getElem_mem hil)
      have hget := getO_in hil
      generalize l[i] = d at *
      obtain ⟨x1, x2, x3⟩ := rem_pos (a := l11_Do.Kind d) (n := 5) k1 (by omega)
      have hwa : w64 (l11_Do.At d) = l11_Do.At d := w64_id (by omega) (by omega)
      have hwt : w64 (l11_Do.To d) = l11_Do.To d := w64_id (by omega) (by omega)
      obtain ⟨y1, y2, y3⟩ := rem_pos (a := l11_Do.At d) (n := ((q + 1 : Nat) : Int)) a1 (by omega)
      have hsp := I.span
      have hfi := I.low
      have hwl := I.wasl
      have hwk := I.wask
      have hlen := I.len
      have hlst := I.lst
      have hsz := I.right.size
      unfold sizeS at hsz
      have hsm : smallL m := by unfold smallL; omega
      have fin : ∀ (f2 : Nat) (m2 : Log) (was2 : List (List Int)), BackI (i + 1) (q + 1) f2 m2 was2 → ∃ s', (((undo_Right m2).bind fun v26 => if (!v26) = true then some true else some (!decide ((List.length (Log.Mem m2) : Int) = ((q + 1 : Nat) : Int))) : Option Bool).bind fun v26 => if v26 = true then some (Sum.inr (Sum.inr false)) else some (Sum.inl ((f2 : Int), w64 ((i : Int) + 1), m2, was2)) : Option ((Int × Int × Log × List (List Int)) ⊕ Unit ⊕ Bool)) = some (.inl s') ∧
          (∃ (i' first : Nat) (m : Log) (was : List (List Int)), s' = ((first : Int), (i' : Int), m, was) ∧ i' ≤ l.length ∧ i' ≤ 100 ∧ BackI i' (q + 1) first m was) ∧ l.length - s'.2.1.toNat < l.length - ((first : Int), (i : Int), m, was).2.1.toNat := fun f2 m2 was2 I2 => by
        have hz2 := I2.right.size
        unfold sizeS at hz2
        have hl2 := I2.len
        have hle : ((Log.Mem m2).length : Int) = ((q + 1 : Nat) : Int) := by omega
        rw [undo_Right_eq m2 (by omega), right_iff.2 I2.right]
        simp only [Option.bind_some, Bool.not_true, Bool.false_eq_true, if_false, hle, decide_true, w64_succ (show i < 4611686018427387904 by omega)]
        exact ⟨_, rfl, ⟨i + 1, f2, m2, was2, rfl, by omega, by omega, I2⟩, by simp only [Int.toNat_natCast]; omega⟩
      simp only [hlt1, hlt2, decide_true, Bool.and_self, if_true, hget, Option.bind_some, x1]
      generalize l11_Do.Kind d % 5 = v at *
      by_cases hv01 : v = 0 ∨ v = 1
      · obtain ⟨a, ha⟩ : ∃ a : Nat, l11_Do.At d % ((q + 1 : Nat) : Int) = (a : Int) := ⟨(l11_Do.At d % ((q + 1 : Nat) : Int)).toNat, by omega⟩
        rw [ha] at y1 y2 y3
        obtain ⟨m', e1, e2, e3, e4⟩ := backI_write I (by omega) (a : Int) (l11_Do.Val d) y2 y3
        have hc : (bif decide (v = 0) then decide (v = 0) else decide (v = 1)) = true := by rcases hv01 with h | h <;> simp [h]
        have hg : getO (Log.Mem m') (a : Int) = some (l11_Do.Val d) := by rw [getO_nat]; simpa using e3
        simp only [hc, if_true, hwa, y1, Option.bind_some, undo_Write_eq m hsm, e1, decide_true, Bool.not_true, Bool.false_eq_true, if_false, hg, orExit_inl]
        exact fin _ _ _ e2
      · have hc : (bif decide (v = 0) then decide (v = 0) else decide (v = 1)) = false := by
          have h1 : ¬ v = 0 := fun e => hv01 (.inl e)
          have h2 : ¬ v = 1 := fun e => hv01 (.inr e)
          simp [h1, h2]
        by_cases hv2 : v = 2
        · obtain ⟨e1, e2⟩ := backI_next I (by omega)
          have hw1 : w64 (Log.Span m + 1) = Log.Span m + 1 := w64_id (by omega) (by omega)
          have hrng : rngO (was.length : Int) 0 (Log.Span m + 1) = some (Log.Span m + 1) := by unfold rngO; rw [if_pos (by omega)]
          have heq : eqiO (Log.Span m + 1) (Log.Span m + 1) = some (Log.Span m + 1) := by unfold eqiO; rw [if_pos rfl]
          have hap : appO 4 ([] : List Int) (Log.Mem m) = some (Log.Mem m) := appO_small (by simp; omega) (by omega)
          have hsub : subO was 0 (Log.Span m + 1) = some (was.take (Log.Span m + 1).toNat) := by
            rw [subO_ok (by omega) (by omega) (by omega)]
            simp
          have hap2 : appO 24 (was.take (Log.Span m + 1).toNat) ([Log.Mem m] : List (List Int)) = some (was.take (Log.Span m + 1).toNat ++ [Log.Mem m]) := appO_small (by rw [List.length_take]; simp; omega) (by omega)
          simp only [hc, Bool.false_eq_true, if_false, hv2, decide_true, if_true, undo_Next_eq m hsm, e1, Option.bind_some, Log.Span_mk, hw1, Bool.not_true, Bool.or_self, hrng, heq, Log.Mem_mk, hap, hsub, hap2, orExit_inl]
          exact fin _ _ _ e2
        · have hspf : w64 (w64 (Log.Span m - (first : Int)) + 1) = Log.Span m - (first : Int) + 1 := by
            rw [w64_id (n := Log.Span m - (first : Int)) (by omega) (by omega), w64_id (by omega) (by omega)]
          obtain ⟨z1, z2, z3⟩ := rem_pos (a := l11_Do.To d) (n := Log.Span m - (first : Int) + 1) t1 (by omega)
          obtain ⟨to, hto⟩ : ∃ to : Nat, l11_Do.To d % (Log.Span m - (first : Int) + 1) = (to : Int) := ⟨(l11_Do.To d % (Log.Span m - (first : Int) + 1)).toNat, by omega⟩
          rw [hto] at z1 z2 z3
          have hw31 : w64 ((first : Int) + (to : Int)) = ((first + to : Nat) : Int) := by rw [w64_id (by omega) (by omega)]; omega
          by_cases hv3 : v = 3
          · obtain ⟨e1, e2⟩ := backI_back I (by omega) (first + to) (by omega) (by omega)
            have hwas : first + to < was.length := by omega
            have hix : idxO (was.length : Int) ((first + to : Nat) : Int) = some ((first + to : Nat) : Int) := idxO_in hwas
            have hgw : getO was ((first + to : Nat) : Int) = some (restore m ((first + to : Nat) : Int)) := by rw [getO_nat, I.key (first + to) (by omega) (by omega)]
            have hws : r04_Words (restore m ((first + to : Nat) : Int)) (restore m ((first + to : Nat) : Int)) = some true := r04_Words_refl _ (by rw [restore_len]; omega)
            simp only [hc, Bool.false_eq_true, if_false, hv2, hv3, decide_false, decide_true, if_true, hwt, hspf, z1, hw31, undo_Back_eq m hsm, e1, Option.bind_some, Log.Span_mk, Log.Mem_mk, Bool.not_true, hix, hgw, hws, orExit_inl, show ¬ (3 : Int) = 2 by omega]
            exact fin _ _ _ e2
          · obtain ⟨e1, e2⟩ := backI_trim I (by omega) (first + to) (by omega) (by omega)
            have hsm2 : smallL (Log.mk (Log.Mem m) (Log.Span m) ((Log.Lst m).filter (goes ((first + to : Nat) : Int)))) := by
              have h3 := List.length_filter_le (goes ((first + to : Nat) : Int)) (Log.Lst m)
              unfold smallL
              simp only [Log.Mem_mk, Log.Lst_mk]
              omega
            have hws : r04_Words (Log.Mem m) (Log.Mem m) = some true := r04_Words_refl _ (by omega)
            have hrl := room_le (m := m) (m' := Log.mk (Log.Mem m) (Log.Span m) ((Log.Lst m).filter (goes ((first + to : Nat) : Int)))) (right_iff.2 I.right) (right_iff.2 e2.right) (by simp only [Log.Lst_mk]; exact List.length_filter_le _ _)
            simp only [hc, Bool.false_eq_true, if_false, hv2, hv3, decide_false, decide_true, if_true, hwt, hspf, z1, hw31, undo_Trim_eq m hsm, e1, Option.bind_some, Log.Span_mk, Log.Mem_mk, Bool.not_true, hws, undo_Room_eq _ hsm2, undo_Room_eq m hsm, hrl, orExit_inl]
            exact fin _ _ _ e2
    · right
      have : (decide ((i : Int) < (l.length : Int)) && decide ((i : Int) < 100)) = false := by
        rw [Bool.and_eq_false_iff, decide_eq_false_iff_not, decide_eq_false_iff_not]; omega
      simp only [this, Bool.false_eq_true, if_false]
      exact ⟨_, rfl, rfl⟩) (s := ((0 : Int), (0 : Int), Log.mk (List.replicate (q + 1) 0) 0 [], [List.replicate (q + 1) 0])) ⟨0, 0, _, _, rfl, Nat.zero_le _, Nat.zero_le _, backI_new (by omega) (by omega)⟩
  obtain ⟨r, hlp, rfl⟩ := lp
  simp only [l11_awake, Bool.not_true, Bool.false_eq_true, if_false, r1, Option.bind_some, hw2, undo_New_eq, hnew, decide_true, Log.Mem_mk, happ, hlp, orExit_inl]

theorem undoBack_ok (x : Ty.Tup F_l11_UndoBack.ps) (h : OkL F_l11_UndoBack.ps x) : F_l11_UndoBack.sem x = some true :=
  undoBack_all x.1 x.2 ⟨h.1.1, Int.lt_of_le_of_lt h.1.2 (by decide)⟩ (fun d hd => by
    have := h.2.2 d hd
    exact ⟨⟨this.1.1, Int.lt_of_le_of_lt this.1.2 (by decide)⟩, ⟨this.2.1.1, Int.lt_of_le_of_lt this.2.1.2 (by decide)⟩, ⟨this.2.2.1.1, Int.lt_of_le_of_lt this.2.2.1.2 (by decide)⟩⟩)

end Go.Proofs.Ytklkpogdghiagaa
