/- Layer 11: the law UndoOnce on typed data. No condition. -/
import Derived.Test.YtklkpogdghiagaaP11e
import Derived.Test.YtklkpogdghiagaaD112
set_option linter.unusedSimpArgs false
set_option linter.unusedVariables false
namespace Go.Proofs.Ytklkpogdghiagaa
open Go.SX

structure OnceI (m n : Log) (L : List Undo) (seen : List Bool) : Prop where
  right : RightP n
  span : Log.Span n = Log.Span m
  len : (Log.Mem n).length = (Log.Mem m).length
  lst : Log.Lst n = Log.Lst m ++ L
  seenl : seen.length = (Log.Mem m).length
  each : ∀ u ∈ L, Undo.Span u = Log.Span m ∧ Undo.Val u = memAt m (Undo.At u) ∧ seen[(Undo.At u).toNat]? = some true
  all : ∀ a : Nat, seen[a]? = some true → ∃ u ∈ L, Undo.At u = (a : Int)
  mem : ∀ a : Nat, seen[a]? = some false → (Log.Mem n)[a]? = (Log.Mem m)[a]?
  cnt : L.length = seen.count true

theorem once_has {m n : Log} {L : List Undo} {seen : List Bool} (I : OnceI m n L seen) (hm : ∀ u ∈ Log.Lst m, Undo.Span u < Log.Span m) (a : Nat) (ha : a < seen.length) : hasU n (a : Int) = seen[a] := by
  cases hb : seen[a] with
  | true =>
    rw [hasU_true]
    obtain ⟨u, hu, e⟩ := I.all a (by rw [List.getElem?_eq_getElem ha, hb])
    exact ⟨u, by rw [I.lst]; exact List.mem_append_right _ hu, by rw [I.span]; exact (I.each u hu).1, e⟩
  | false =>
    rw [hasU_false]
    intro u hu e
    rw [I.lst, List.mem_append] at hu
    rcases hu with hu | hu
    · have := hm u hu
      rw [I.span] at e
      omega
    · have h1 := (I.each u hu).2.2
      rw [e.2] at h1
      simp only [Int.toNat_natCast, List.getElem?_eq_getElem ha, hb] at h1
      cases h1

theorem once_step {m n : Log} {L : List Undo} {seen : List Bool} (I : OnceI m n L seen) (hm : ∀ u ∈ Log.Lst m, Undo.Span u < Log.Span m) (hroom : (Log.Lst m).length ≤ 192) (h64 : (Log.Mem m).length ≤ 64) (a : Nat) (ha : a < seen.length) (w : Int) :
    ∃ n' L', writeS n (a : Int) w = (n', 0) ∧ OnceI m n' L' (if seen[a] = false then seen.set a true else seen) ∧ L'.length = if seen[a] = false then L.length + 1 else L.length := by
  have hcnt : seen.count true ≤ seen.length := List.count_le_length
  have hlen := I.len
  have hsl := I.seenl
  have hll : (Log.Lst n).length = (Log.Lst m).length + L.length := by rw [I.lst, List.length_append]
  have h0 := once_has I hm a ha
  have hset : (seen.set a true).count true = seen.count true - (if seen[a] == true then 1 else 0) + (if true == true then 1 else 0) := List.count_set ha
  have hcnt2 : (seen.set a true).count true ≤ (seen.set a true).length := List.count_le_length
  rw [List.length_set] at hcnt2
  have hc := I.cnt
  cases hb : seen[a] with
  | true =>
    rw [hb] at h0
    rw [if_neg (by simp), if_neg (by simp)]
    unfold writeS
    rw [if_pos (show rightS n = true ∧ 0 ≤ (a : Int) ∧ (a : Int) < ((Log.Mem n).length : Int) from ⟨right_iff.2 I.right, by omega, by omega⟩), if_pos h0]
    refine ⟨_, L, rfl, ⟨right_put I.right, I.span, by simpa using hlen, I.lst, hsl, I.each, I.all, fun a' ha' => ?_, hc⟩, rfl⟩
    simp only [Log.Mem_mk, Int.toNat_natCast]
    have hne : ¬ a = a' := fun e => by
      subst e
      rw [List.getElem?_eq_getElem ha, hb] at ha'
      cases ha'
    rw [List.getElem?_set_ne hne]
    exact I.mem a' ha'
  | false =>
    rw [hb] at h0
    rw [hb] at hset
    simp only [Bool.false_eq_true, beq_self_eq_true, if_true] at hset
    have hset' : (seen.set a true).count true = seen.count true + 1 := by simpa using hset
    rw [if_pos rfl, if_pos rfl]
    unfold writeS
    rw [if_pos (show rightS n = true ∧ 0 ≤ (a : Int) ∧ (a : Int) < ((Log.Mem n).length : Int) from ⟨right_iff.2 I.right, by omega, by omega⟩), if_neg (by rw [h0]; simp), if_neg (by omega)]
    have hmm : memAt n (a : Int) = memAt m (a : Int) := by
      have := I.mem a (by rw [List.getElem?_eq_getElem ha, hb])
      unfold memAt
      simp only [Int.toNat_natCast, this]
    refine ⟨_, L ++ [Undo.mk (Log.Span n) (a : Int) (memAt n (a : Int))], rfl, ⟨right_add I.right (by omega) (by omega) h0 (by omega), I.span, by simpa using hlen, by simp [I.lst], by simpa using hsl, fun u hu => ?_, fun a' ha' => ?_, fun a' ha' => ?_, by rw [List.length_append, hset', hc]; rfl⟩, by simp⟩
    · rw [List.mem_append, List.mem_singleton] at hu
      rcases hu with hu | hu
      · obtain ⟨g1, g2, g3⟩ := I.each u hu
        refine ⟨g1, g2, ?_⟩
        by_cases e : (Undo.At u).toNat = a
        · rw [e, List.getElem?_set_self ha]
        · rw [List.getElem?_set_ne (fun e' => e e'.symm)]
          exact g3
      · subst hu
        simp only [Undo.Span_mk, Undo.At_mk, Undo.Val_mk, Int.toNat_natCast]
        exact ⟨I.span, hmm, List.getElem?_set_self ha⟩
    · by_cases e : a = a'
      · subst e
        exact ⟨_, List.mem_append_right _ (List.mem_singleton.2 rfl), rfl⟩
      · rw [List.getElem?_set_ne e] at ha'
        obtain ⟨u, hu, hh⟩ := I.all a' ha'
        exact ⟨u, List.mem_append_left _ hu, hh⟩
    · have e : ¬ a = a' := fun e => by
        subst e
        rw [List.getElem?_set_self ha] at ha'
        cases ha'
      rw [List.getElem?_set_ne e] at ha'
      simp only [Log.Mem_mk, Int.toNat_natCast]
      rw [List.getElem?_set_ne e]
      exact I.mem a' ha'

theorem once_back {m n : Log} {L : List Undo} {seen : List Bool} (I : OnceI m n L seen) (hm : ∀ u ∈ Log.Lst m, Undo.Span u < Log.Span m) : backS n (Log.Span m) = (m, 0) := by
  have hsz := I.right.size
  unfold sizeS at hsz
  have hsp := I.span
  unfold backS
  rw [if_pos (show rightS n = true ∧ 0 ≤ Log.Span m ∧ Log.Span m ≤ Log.Span n from ⟨right_iff.2 I.right, by omega, by omega⟩)]
  have h1 : (Log.Lst n).filter (stays (Log.Span m)) = Log.Lst m := by
    rw [I.lst, List.filter_append, List.filter_eq_self.2 (fun u hu => by have := hm u hu; simp [stays, this]), List.filter_eq_nil_iff.2 (fun u hu => by have := (I.each u hu).1; simp [stays, this]), List.append_nil]
  have h2 : (Log.Lst n).filter (goes (Log.Span m)) = L := by
    rw [I.lst, List.filter_append, List.filter_eq_nil_iff.2 (fun u hu => by have := hm u hu; simp [goes, this]), List.filter_eq_self.2 (fun u hu => by have := (I.each u hu).1; simp [goes, this]), List.nil_append]
  have h3 : restore n (Log.Span m) = Log.Mem m := by
    unfold restore
    rw [h2]
    refine List.ext_getElem? fun i => ?_
    have hlen := I.len
    have hsl := I.seenl
    rcases Nat.lt_or_ge i (Log.Mem n).length with hi | hi
    · rw [foldB_get _ i hi _ fun u hu => (I.right.each u (by rw [I.lst]; exact List.mem_append_right _ hu)).2.2.1]
      cases hf : L.find? (fun u => decide (Undo.At u = (i : Int))) with
      | some u =>
        have hu := List.mem_of_find?_eq_some hf
        have hp := List.find?_some hf
        simp only [decide_eq_true_eq] at hp
        have := (I.each u hu).2.1
        rw [hp] at this
        simp only [this, memAt, Int.toNat_natCast]
        rw [List.getElem?_eq_getElem (by omega)]
        rfl
      | none =>
        have hs : seen[i]? = some false := by
          rw [List.getElem?_eq_getElem (by omega)]
          cases hb : seen[i] with
          | false => rfl
          | true =>
            obtain ⟨u, hu, e⟩ := I.all i (by rw [List.getElem?_eq_getElem (by omega), hb])
            have := List.find?_eq_none.1 hf u hu
            simp [e] at this
        exact I.mem i hs
    · rw [List.getElem?_eq_none (by rw [foldB_len]; exact hi), List.getElem?_eq_none (by omega)]
  rw [h1, h3, Log.eta]

theorem undoOnce_all (l : Log) (ats vals : List Int) (hat : ∀ a ∈ ats, 0 ≤ a ∧ a < 256) (hv : vals.length ≤ 9223372036854775807) : l11_UndoOnce l ats vals = some true := by
  unfold l11_UndoOnce
  by_cases hc : (80 : Int) < ((Log.Mem l).length : Int) ∨ (300 : Int) < ((Log.Lst l).length : Int) ∨ (150 : Int) < (ats.length : Int) ∨ (vals.length : Int) = 0
  · have : (decide ((80 : Int) < ((Log.Mem l).length : Int)) || (decide ((300 : Int) < ((Log.Lst l).length : Int)) || (decide ((150 : Int) < (ats.length : Int)) || decide ((vals.length : Int) = 0)))) = true := by
      simp only [Bool.or_eq_true, decide_eq_true_eq]; exact hc
    simp only [l11_awake, this, Bool.not_true, Bool.false_eq_true, if_false, if_true]
  · have hc' : (decide ((80 : Int) < ((Log.Mem l).length : Int)) || (decide ((300 : Int) < ((Log.Lst l).length : Int)) || (decide ((150 : Int) < (ats.length : Int)) || decide ((vals.length : Int) = 0)))) = false := by
      simp only [Bool.or_eq_false_iff, decide_eq_false_iff_not]; omega
    have hs : smallL l := by unfold smallL; omega
    have hsn : smallL (nextS l).1 := by
      unfold nextS
      split <;> exact hs
    simp only [l11_awake, hc', Bool.not_true, Bool.false_eq_true, if_false, undo_Next_eq l hs, Option.bind_some, undo_Room_eq _ hsn]
    by_cases hn : (nextS l).2 = 0
    · by_cases hr : roomS (nextS l).1 < 64
      · simp [hn, hr]
      · have hn2 : rightS l = true ∧ Log.Span l < 1099511627776 := by
          unfold nextS at hn
          split at hn
          · assumption
          · simp at hn
        have hm : nextS l = (Log.mk (Log.Mem l) (Log.Span l + 1) (Log.Lst l), 0) := by
          unfold nextS
          rw [if_pos hn2]
        have hb : (if (!decide ((nextS l).2 = 0)) = true then some true else some (decide (roomS (nextS l).1 < 64))) = some false := by simp [hn, hr]
        rw [hb]
        generalize hM : (nextS l).1 = m at *
        have hMm : m = Log.mk (Log.Mem l) (Log.Span l + 1) (Log.Lst l) := by rw [← hM, hm]
        have hrm : rightS m = true := by
          rcases Bool.eq_false_or_eq_true (rightS m) with h | h
          · exact h
          · unfold roomS at hr
            rw [h] at hr
            simp at hr
        have hRm := right_iff.1 hrm
        have hroom : (Log.Lst m).length ≤ 192 := by
          unfold roomS at hr
          rw [if_pos hrm] at hr
          omega
        have hsz := hRm.size
        unfold sizeS at hsz
        have hlt : ∀ u ∈ Log.Lst m, Undo.Span u < Log.Span m := fun u hu => by
          have := (right_iff.1 hn2.1).each u (by rw [hMm] at hu; exact hu)
          rw [hMm]
          simp only [Log.Span_mk]
          omega
        have hrep : repO false 1 ((Log.Mem m).length : Int) ((Log.Mem m).length : Int) = some (List.replicate (Log.Mem m).length false) := repO_small (by omega) (by omega)
        have I0 : OnceI m m [] (List.replicate (Log.Mem m).length false) := ⟨hRm, rfl, rfl, by simp, by simp, by simp, (fun a ha => by
          rw [List.getElem?_replicate] at ha
          split at ha <;> cases ha), fun a _ => rfl, (List.count_eq_zero.2 (by simp)).symm⟩
        have lp := loop_rule (f := l11_UndoOnce_L2 ats vals m) (fun s => ∃ (i : Nat) (n : Log) (L : List Undo) (seen : List Bool), s = ((L.length : Int), (i : Int), n, seen) ∧ i ≤ ats.length ∧ OnceI m n L seen) (fun s => ats.length - s.2.1.toNat)
          (fun r => ∃ (n : Log) (L : List Undo) (seen : List Bool), r = .inl ((L.length : Int), n, seen) ∧ OnceI m n L seen) (fun s hs => by
            obtain ⟨i, n, L, seen, rfl, hi, I⟩ := hs
            unfold l11_UndoOnce_L2
            rcases Nat.lt_or_ge i ats.length with hil | hil
            · left
              have hlt' : (i : Int) < (ats.length : Int) := by omega
              have ha := hat _ (List.getElem_mem hil)
              have hwa : w64 ats[i] = ats[i] := w64_id (by omega) (by omega)
              obtain ⟨r1, r2, r3⟩ := rem_pos (a := ats[i]) (n := ((Log.Mem m).length : Int)) ha.1 (by omega)
              obtain ⟨k, hk⟩ : ∃ k : Nat, ats[i] % ((Log.Mem m).length : Int) = (k : Int) := ⟨(ats[i] % ((Log.Mem m).length : Int)).toNat, by omega⟩
              obtain ⟨q1, q2, q3⟩ := rem_pos (a := (i : Int)) (n := (vals.length : Int)) (by omega) (by omega)
              obtain ⟨kv, hkv⟩ : ∃ kv : Nat, (i : Int) % (vals.length : Int) = (kv : Int) := ⟨((i : Int) % (vals.length : Int)).toNat, by omega⟩
              have hkvl : kv < vals.length := by omega
              have hsl := I.seenl
              have hks : k < seen.length := by omega
              obtain ⟨n', L', e1, e2, e3⟩ := once_step I hlt hroom (by omega) k hks vals[kv]
              have hnz := I.right.size
              unfold sizeS at hnz
              have hsm : smallL n := by unfold smallL; omega
              rw [hk] at r1
              rw [hkv] at q1
              simp only [hlt', decide_true, if_true, getO_in hil, Option.bind_some, hwa, r1, q1, getO_in hkvl, undo_Write_eq n hsm, e1, Bool.not_true, Bool.false_eq_true, if_false, idxO_in hks, getO_in hks, setO_in hks, w64_succ (show i < 4611686018427387904 by omega)]
              cases hb : seen[k] with
              | true =>
                rw [hb] at e2 e3
                simp only [Bool.not_true, Bool.false_eq_true, if_false, Option.bind_some]
                rw [if_neg (by simp)] at e2 e3
                exact ⟨_, rfl, ⟨i + 1, n', L', seen, by rw [e3], by omega, e2⟩, by simp only [Int.toNat_natCast]; omega⟩
              | false =>
                rw [hb] at e2 e3
                rw [if_pos rfl] at e2 e3
                have hlc : L.length < 4611686018427387904 := by
                  have := I.cnt
                  have h2 : seen.count true ≤ seen.length := List.count_le_length
                  omega
                simp only [Bool.not_false, if_true, Option.bind_some, w64_succ hlc]
                exact ⟨_, rfl, ⟨i + 1, n', L', seen.set k true, by rw [e3], by omega, e2⟩, by simp only [Int.toNat_natCast]; omega⟩
            · right
              have hlt' : ¬ (i : Int) < (ats.length : Int) := by omega
              simp only [hlt', decide_false, Bool.false_eq_true, if_false]
              exact ⟨_, rfl, n, L, seen, rfl, I⟩) (s := ((0 : Int), (0 : Int), m, List.replicate (Log.Mem m).length false)) ⟨0, m, [], _, rfl, Nat.zero_le _, I0⟩
        obtain ⟨r, hlp, n, L, seen, rfl, I⟩ := lp
        have hnz := I.right.size
        unfold sizeS at hnz
        have hsm : smallL n := by unfold smallL; omega
        have hsmm : smallL m := by unfold smallL; omega
        have hll : (Log.Lst n).length = (Log.Lst m).length + L.length := by rw [I.lst, List.length_append]
        have hw : w64 (((Log.Lst m).length : Int) + (L.length : Int)) = ((Log.Lst n).length : Int) := by rw [w64_id (by omega) (by omega)]; omega
        have chk := loop_from (f := l11_UndoOnce_L1 m n seen) (fun i => (i : Int)) (k := (Log.Lst m).length) (n := (Log.Lst n).length) (e := .inl ()) (by omega) (fun i hk hi => by
          have hlt' : (i : Int) < ((Log.Lst n).length : Int) := by omega
          have hiL : i - (Log.Lst m).length < L.length := by omega
          have hx : (Log.Lst n)[i] = L[i - (Log.Lst m).length] := by
            have e : (Log.Lst n)[i]? = (Log.Lst m ++ L)[i]? := by rw [I.lst]
            rw [List.getElem?_append_right hk, List.getElem?_eq_getElem hi, List.getElem?_eq_getElem hiL] at e
            exact Option.some.inj e
          obtain ⟨g1, g2, g3⟩ := I.each _ (List.getElem_mem hiL)
          have g4 := I.right.each _ (by rw [I.lst]; exact List.mem_append_right _ (List.getElem_mem hiL))
          generalize L[i - (Log.Lst m).length] = u at *
          obtain ⟨k, hk2⟩ : ∃ k : Nat, Undo.At u = (k : Int) := ⟨(Undo.At u).toNat, by omega⟩
          have hlen := I.len
          have hsl := I.seenl
          have hkm : k < (Log.Mem m).length := by omega
          have hks : k < seen.length := by omega
          rw [hk2] at g2 g3
          simp only [Int.toNat_natCast, List.getElem?_eq_getElem hks, Option.some.injEq] at g3
          have hmv : memAt m (k : Int) = (Log.Mem m)[k] := by unfold memAt; simp [hkm]
          unfold l11_UndoOnce_L1
          simp only [hlt', decide_true, if_true, getO_in hi, hx, Option.bind_some, g1, hk2, getO_in hkm, g2, hmv, idxO_in hks, getO_in hks, g3, Bool.not_true, Bool.false_eq_true, if_false, w64_succ (show i < 4611686018427387904 by omega)]) (by
          unfold l11_UndoOnce_L1
          simp)
        simp only [hrep, Option.bind_some, hlp, orExit_inl, hw, decide_true, Bool.not_true, Bool.false_eq_true, if_false, chk, undo_Back_eq n hsm, once_back I hlt, if_true, r11_Same_refl m hsmm]
    · simp [hn]

theorem undoOnce_ok (x : Ty.Tup F_l11_UndoOnce.ps) (h : OkL F_l11_UndoOnce.ps x) : F_l11_UndoOnce.sem x = some true :=
  undoOnce_all x.1 x.2.1 x.2.2 (fun a ha => by
    have := h.2.1.2 a ha
    exact ⟨this.1, by have := this.2; exact Int.lt_of_le_of_lt this (by decide)⟩) (Nat.le_trans h.2.2.1 (by decide))

end Go.Proofs.Ytklkpogdghiagaa
