/- Layer 6: pools by the program and by the document; the law PoolRight on typed data. -/
import Derived.Test.YtihchahfnhoapaaPO06
import Derived.Test.YtihchahfnhoapaaD063
set_option linter.unusedSimpArgs false
set_option linter.unusedVariables false
namespace Go.Proofs.Ytihchahfnhoapaa
open Go.SX

/-! ### The document's frames -/
theorem r05_put_no {m : Msg} (h : mayM m = false) : r05_Put m = some (([] : List Int), (1 : Int)) := by
  unfold r05_Put
  rw [r05_May_eq, h]
  rfl
theorem r05_put_eq {x : Nums} (h : x.Ok) : r05_Put x.msg = some (castL (frameN x), (0 : Int)) := by
  have hb1 := r01_Bytes_eq x.nu h.nu
  have hb2 := r01_Bytes_eq x.va h.va
  have hb3 := r01_Bytes_eq (crcN (dataN x)) crcN_lt
  have hsum := r05_Sum_eq (dataN x) (by rw [dataN_len]; omega) (dataN_lt h)
  obtain ⟨h1, h2, h3, h4, h5, h6, h7, _, _⟩ := id h
  have hl : [wu8 (Msg.Kind x.msg), wu8 (Msg.From x.msg), wu8 (Msg.To x.msg), wu8 (Msg.Line x.msg), wu8 (Msg.For x.msg), wu8 (Msg.Acks x.msg), (0 : Int)] = castL [x.k, x.f, x.t, x.li, x.fo, x.ac, 0] := by
    unfold Nums.msg castL
    simp only [Msg.From_mk, Msg.To_mk, Msg.Line_mk, Msg.For_mk, Msg.Acks_mk, Msg.Kind_mk, Msg.Own_mk, wu8_nat, List.map_cons, List.map_nil]
    rw [Nat.mod_eq_of_lt (by omega), Nat.mod_eq_of_lt (by omega), Nat.mod_eq_of_lt (by omega), Nat.mod_eq_of_lt (by omega), Nat.mod_eq_of_lt (by omega), Nat.mod_eq_of_lt (by omega)]
    rfl
  have hs : (if Msg.Own x.msg then
            (idxO (List.length (castL [x.k, x.f, x.t, x.li, x.fo, x.ac, 0]) : Int) (6 : Int)).bind fun v27 =>
            (setO (castL [x.k, x.f, x.t, x.li, x.fo, x.ac, 0]) v27 (1 : Int)).bind fun v28 =>
            some (v28)
          else
            some (castL [x.k, x.f, x.t, x.li, x.fo, x.ac, 0]) : Option (List Int)) = some (castL (headN x)) := by
    have ho : Msg.Own x.msg = x.own := rfl
    unfold headN
    rw [ho]
    cases x.own <;> rfl
  have a1 : appO 1 (castL (headN x)) (castL (bytesN x.nu)) = some (castL (headN x ++ bytesN x.nu)) := by
    rw [appO_small (by rw [castL_len, castL_len]; simp [headN, bytesN]) (by omega), castL_app]
  have a2 : appO 1 (castL (headN x ++ bytesN x.nu)) (castL (bytesN x.va)) = some (castL (dataN x)) := by
    rw [appO_small (by rw [castL_len, castL_len]; simp [headN, bytesN]) (by omega), ← castL_app]
    rfl
  have a3 : appO 1 (castL (dataN x)) (castL (bytesN (crcN (dataN x)))) = some (castL (frameN x)) := by
    rw [appO_small (by rw [castL_len, castL_len, dataN_len]; simp [bytesN]) (by omega), ← castL_app]
    rfl
  have hN : Msg.Num x.msg = (x.nu : Int) := rfl
  have hV : Msg.Val x.msg = (x.va : Int) := rfl
  unfold r05_Put
  rw [r05_May_eq, nums_may h, hl]
  simp only [Option.bind_some, Bool.not_true, Bool.false_eq_true, if_false, hs, hN, hV, hb1, hb2, a1, a2, hsum, hb3, a3]

/-! ### Pools -/
def goodP (p : Pool) : Prop := (Pool.Frames p).length ≤ 1000 ∧ ∀ b ∈ Pool.Frames p, b.length ≤ 1000 ∧ ∀ x ∈ b, 0 ≤ x ∧ x < 256
theorem good_small {p : Pool} (h : goodP p) : smallP p := ⟨h.1, fun b hb => (h.2 b hb).1⟩
theorem same_refl {p : Pool} (h : goodP p) : r06_Same p p = some true := by
  unfold r06_Same
  have hl := h.1
  have lp := loop_good (f := r06_Same_L1 p p) (n := (Pool.Frames p).length) (e := (Sum.inl () : Unit ⊕ Bool)) (fun i => (i : Int)) (fun i hi => by
    have hlt : (i : Int) < (List.length (Pool.Frames p) : Int) := by omega
    obtain ⟨c, hc, hc2⟩ := cast_of (l := (Pool.Frames p)[i]) (fun x hx => (h.2 _ (List.getElem_mem hi)).2 x hx)
    have hb : b2sO (Pool.Frames p)[i] = some (Pool.Frames p)[i] := by rw [hc]; exact b2sO_cast hc2
    unfold r06_Same_L1
    simp only [hlt, decide_true, if_true, getO_in hi, Option.bind_some, hb, Bool.not_true, Bool.false_eq_true, if_false, w64_succ (show i < 4611686018427387904 by omega)]) (by
    unfold r06_Same_L1
    simp only [show ¬ (List.length (Pool.Frames p) : Int) < (List.length (Pool.Frames p) : Int) by omega, decide_false, Bool.false_eq_true, if_false])
  rw [show (((0 : Nat) : Int)) = 0 from rfl] at lp
  simp only [decide_true, Bool.not_true, Bool.false_eq_true, if_false, lp, orExit_inl]
theorem r06_Right_eq (p : Pool) (hl : (Pool.Frames p).length ≤ 1000) : r06_Right p = some (poolB p) := by
  unfold r06_Right poolB
  obtain ⟨fr, hfr⟩ : ∃ fr, fr = Pool.Frames p := ⟨_, rfl⟩
  have lp := check_all (f := r06_Right_L1 p) (n := fr.length) (g := fun _ => some true) (fun i => (i : Int)) (fun i => decide (i ≤ 63) && optT (fun b => decide (b.length = 19)) fr[i]?) (fun i hi _ => by
    have hlt : (i : Int) < (List.length fr : Int) := by omega
    rw [optT_in hi]
    unfold r06_Right_L1
    rw [← hfr]
    simp only [hlt, decide_true, if_true, getO_in hi, Option.bind_some, w64_succ (show i < 4611686018427387904 by rw [← hfr] at hl; omega)]
    by_cases h3 : i ≤ 63
    · have h3' : ¬ (63 : Int) < (i : Int) := by omega
      by_cases h : fr[i].length = 19
      · have h' : (fr[i].length : Int) = 19 := by omega
        simp only [h, h', h3, h3', decide_true, decide_false, Bool.not_true, Bool.false_eq_true, if_false, if_true, Option.bind_some, Bool.and_self]
        rfl
      · have h' : ¬ (fr[i].length : Int) = 19 := by omega
        simp only [h, h', h3, h3', decide_true, decide_false, Bool.not_false, Bool.false_eq_true, if_false, if_true, Option.bind_some, Bool.and_false]
    · have h3' : (63 : Int) < (i : Int) := by omega
      simp only [h3, h3', decide_true, decide_false, Bool.false_eq_true, if_false, if_true, Option.bind_some, Bool.false_and]) (fun _ => by
    unfold r06_Right_L1
    rw [← hfr]
    simp only [show ¬ (List.length fr : Int) < (List.length fr : Int) by omega, decide_false, Bool.false_eq_true, if_false])
  rw [show (((0 : Nat) : Int)) = 0 from rfl] at lp
  rw [lp, ← hfr]
  by_cases ha : ((List.range fr.length).all fun i => decide (i ≤ 63) && optT (fun b : List Int => decide (b.length = 19)) fr[i]?) = true
  · rw [if_pos ha]
    rw [range_all] at ha
    have h1 : (fr.all fun b => decide (b.length = 19)) = true := by
      rw [all_range, range_all]
      intro i hi
      have := ha i hi
      rw [Bool.and_eq_true] at this
      exact this.2
    have h2 : fr.length ≤ 64 := by
      rcases Nat.lt_or_ge 64 fr.length with q | q
      · have := ha 64 q
        simp at this
      · exact q
    rw [h1, decide_eq_true h2]
    rfl
  · rw [if_neg ha]
    by_cases h2 : fr.length ≤ 64
    · have h1 : (fr.all fun b => decide (b.length = 19)) = false := by
        rw [Bool.eq_false_iff]
        intro q
        rw [all_range, range_all] at q
        refine ha (range_all.2 fun i hi => ?_)
        rw [Bool.and_eq_true]
        exact ⟨decide_eq_true (by omega), q i hi⟩
      rw [h1, Bool.and_false]
    · rw [decide_eq_false h2]
      rfl
theorem check_is (p : Pool) (hl : (Pool.Frames p).length ≤ 1000) (n : Int) : r06_check p n = pool_has p n := by
  unfold r06_check pool_has
  rw [r06_Right_eq p hl, pool_Right_eq p hl]
theorem good_app {p : Pool} (h : goodP p) (hl : (Pool.Frames p).length ≤ 64) {b : List Int} (hb : b.length ≤ 1000 ∧ ∀ x ∈ b, 0 ≤ x ∧ x < 256) : goodP (Pool.mk (Pool.Frames p ++ [b])) := by
  refine ⟨by show (Pool.Frames p ++ [b]).length ≤ 1000; simp; omega, fun c hc => ?_⟩
  rcases List.mem_append.1 hc with q | q
  · exact h.2 c q
  · rw [List.mem_singleton.1 q]; exact hb
theorem add_eq (p : Pool) (hp : goodP p) (b : List Int) : r06_add p b = some (if 64 ≤ (Pool.Frames p).length then (p, 6) else (Pool.mk (Pool.Frames p ++ [b]), 0)) := by
  unfold r06_add
  have hl := hp.1
  by_cases h : 64 ≤ (Pool.Frames p).length
  · rw [decide_eq_true (show (64 : Int) ≤ (List.length (Pool.Frames p) : Int) by omega), if_pos rfl, if_pos h]
  · have a1 : appO 24 ([] : List (List Int)) (Pool.Frames p) = some (Pool.Frames p) := by rw [appO_small (by simp; omega) (by omega), List.nil_append]
    have a2 : appO 24 (Pool.Frames p) ([b] : List (List Int)) = some (Pool.Frames p ++ [b]) := appO_small (by simp; omega) (by omega)
    rw [decide_eq_false (show ¬ (64 : Int) ≤ (List.length (Pool.Frames p) : Int) by omega), if_neg (by simp), if_neg h, a1, Option.bind_some, a2]
    rfl
theorem frame_bytes {x : Nums} (h : x.Ok) : (castL (frameN x)).length ≤ 1000 ∧ ∀ y ∈ castL (frameN x), 0 ≤ y ∧ y < 256 := by
  have hb := frameN_byte h
  refine ⟨by rw [castL_len, hb.len]; omega, fun y hy => ?_⟩
  obtain ⟨n, hn, rfl⟩ := List.mem_map.1 hy
  have := hb.lt n hn
  omega

theorem send_both (p : Pool) (hp : goodP p) (m : Msg) (hn : 0 ≤ Msg.Num m ∧ Msg.Num m < 4294967296) (hv : 0 ≤ Msg.Val m ∧ Msg.Val m < 4294967296) : ∃ q e, pool_Send p m = some (q, e) ∧ r06_Send p m = some (q, e) ∧ goodP q := by
  have hsp := good_small hp
  have hcp := copy_loop (f := pool_Send_L1 (Pool.Frames p) (List.length (Pool.Frames p) : Int)) (fr := Pool.Frames p) (fun s => rfl) hsp.1 hsp.2
  have heta : Pool.mk (Pool.Frames p) = p := rfl
  unfold pool_Send r06_Send
  cases hm : mayM m
  · refine ⟨p, 1, ?_, ?_, hp⟩
    · rw [put_no hm, pool_Right_eq p hp.1]
      cases poolB p
      · simp only [Option.bind_some, Bool.not_false, if_true, hcp, heta]
      · simp only [Option.bind_some, Bool.not_true, Bool.false_eq_true, if_false, show ¬ (1 : Int) = 0 by omega, decide_false, Bool.not_false, if_true, hcp, heta]
    · rw [r05_put_no hm, r06_Right_eq p hp.1]
      cases poolB p <;> rfl
  · obtain ⟨x, hx, rfl⟩ := nums_of hm hn hv
    rw [put_eq hx, r05_put_eq hx, pool_Right_eq p hp.1, r06_Right_eq p hp.1]
    cases hr : poolB p
    · refine ⟨p, 1, ?_, rfl, hp⟩
      simp only [Option.bind_some, Bool.not_false, if_true, hcp, heta]
    · obtain ⟨h1, h2⟩ := poolB_iff.1 hr
      have hroom := pool_Room_eq p hp.1
      rw [hr, if_pos rfl] at hroom
      have had := add_eq p hp (castL (frameN x))
      by_cases h64 : 64 ≤ (Pool.Frames p).length
      · rw [if_pos h64] at had
        refine ⟨p, 6, ?_, ?_, hp⟩
        · have he : (64 : Int) - ((Pool.Frames p).length : Int) = 0 := by omega
          simp only [Option.bind_some, Bool.not_true, Bool.false_eq_true, if_false, decide_true, hcp, heta, hroom, he, if_true]
        · simp only [Option.bind_some, Bool.not_true, Bool.false_eq_true, if_false, decide_true, had]
      · rw [if_neg h64] at had
        refine ⟨Pool.mk (Pool.Frames p ++ [castL (frameN x)]), 0, ?_, ?_, good_app hp h1 (frame_bytes hx)⟩
        · have hne : ¬ (64 : Int) - ((Pool.Frames p).length : Int) = 0 := by omega
          have hc : cloneO 1 (castL (frameN x)) = some (castL (frameN x)) := cloneO_small (by have := (frame_bytes hx).1; omega) (by omega)
          have ha : appO 24 (Pool.Frames p) ([castL (frameN x)] : List (List Int)) = some (Pool.Frames p ++ [castL (frameN x)]) := appO_small (by simp; omega) (by omega)
          simp only [Option.bind_some, Bool.not_true, Bool.false_eq_true, if_false, decide_true, hcp, heta, hroom, hne, decide_false, hc, ha]
        · simp only [Option.bind_some, Bool.not_true, Bool.false_eq_true, if_false, decide_true, had]

theorem good_erase {p : Pool} (h : goodP p) (n : Nat) : goodP (Pool.mk ((Pool.Frames p).eraseIdx n)) := by
  refine ⟨?_, fun b hb => h.2 b (List.mem_of_mem_eraseIdx hb)⟩
  show ((Pool.Frames p).eraseIdx n).length ≤ 1000
  have := List.length_eraseIdx_le (Pool.Frames p) n
  have := h.1
  omega
/-- Whether there is such a frame. -/
theorem has_cases (p : Pool) (hp : goodP p) (n : Int) : (∃ e, e ≠ 0 ∧ pool_has p n = some e) ∨ ∃ k : Nat, n = (k : Int) ∧ k < (Pool.Frames p).length ∧ poolB p = true ∧ pool_has p n = some 0 := by
  have hh := pool_has_eq p hp.1 n
  cases hr : poolB p
  · rw [hr, if_neg (by simp)] at hh
    exact .inl ⟨1, by decide, hh⟩
  · rw [hr, if_pos rfl] at hh
    by_cases h : n < 0 ∨ ((Pool.Frames p).length : Int) ≤ n
    · rw [if_pos h] at hh
      exact .inl ⟨7, by decide, hh⟩
    · rw [if_neg h] at hh
      exact .inr ⟨n.toNat, by omega, by omega, rfl, hh⟩
theorem drop_both (p : Pool) (hp : goodP p) (n : Int) : ∃ q e, pool_Drop p n = some (q, e) ∧ r06_Drop p n = some (q, e) ∧ goodP q ∧ (e ≠ 0 → q = p) ∧ ∀ e', pool_has p n = some e' → e = e' := by
  have hsp := good_small hp
  have heta : Pool.mk (Pool.Frames p) = p := rfl
  rcases has_cases p hp n with ⟨e, h1, h2⟩ | ⟨k, rfl, h2, h3, h4⟩
  · refine ⟨p, e, ?_, ?_, hp, fun _ => rfl, fun e' h => by rw [h2] at h; exact Option.some.inj h⟩
    · have hcp := copy_loop (f := pool_Drop_L1 (Pool.Frames p) (List.length (Pool.Frames p) : Int)) (fr := Pool.Frames p) (fun s => rfl) hsp.1 hsp.2
      have hsub : subO (Pool.Frames p) (0 : Int) (List.length (Pool.Frames p) : Int) = some (Pool.Frames p) := by
        have := subO_in (l := Pool.Frames p) (i := 0) (j := (Pool.Frames p).length) (by omega) (Nat.le_refl _)
        rw [List.drop_zero, List.take_length] at this
        exact this
      unfold pool_Drop
      simp only [h2, hcp, Option.bind_some, h1, decide_false, Bool.false_eq_true, if_false, hsub, heta]
    · unfold r06_Drop
      rw [check_is p hp.1, h2]
      simp only [Option.bind_some, h1, decide_false, Bool.not_false, if_true]
  · refine ⟨_, 0, pool_Drop_eq p h3 k h2, ?_, good_erase hp k, fun q => absurd rfl q, fun e' h => by rw [h4] at h; exact Option.some.inj h⟩
    have hl := hp.1
    obtain ⟨fr, hfr⟩ : ∃ fr, fr = Pool.Frames p := ⟨_, rfl⟩
    have lp := loop_good (f := r06_Drop_L1 p (k : Int)) (n := fr.length) (e := fr.eraseIdx k) (fun i => ((i : Int), (fr.take k).take i ++ (fr.take i).drop (k + 1))) (fun i hi => by
      have hlt : (i : Int) < (List.length fr : Int) := by omega
      have hll : ((fr.take k).take i ++ (fr.take i).drop (k + 1)).length ≤ 1000 := by
        rw [← hfr] at hl
        simp only [List.length_append, List.length_take, List.length_drop]
        omega
      have ha : ∀ x, appO 24 ((fr.take k).take i ++ (fr.take i).drop (k + 1)) ([x] : List (List Int)) = some ((fr.take k).take i ++ (fr.take i).drop (k + 1) ++ [x]) := fun x => appO_small (by have := hll; rw [List.length_singleton]; omega) (by omega)
      unfold r06_Drop_L1
      rw [← hfr]
      simp only [hlt, decide_true, if_true, getO_in hi, Option.bind_some, ha, w64_succ (show i < 4611686018427387904 by rw [← hfr] at hl; omega)]
      rcases Nat.lt_trichotomy i k with q | q | q
      · have hne : ¬ (i : Int) = (k : Int) := by omega
        have e1 : (fr.take i).drop (k + 1) = [] := List.drop_eq_nil_of_le (by rw [List.length_take]; omega)
        have e2 : (fr.take (i + 1)).drop (k + 1) = [] := List.drop_eq_nil_of_le (by rw [List.length_take]; omega)
        have e3 : (fr.take k).take (i + 1) = (fr.take k).take i ++ [fr[i]] := by
          rw [take_succ_get (show i < (fr.take k).length by rw [List.length_take]; omega), List.getElem_take]
        simp only [hne, decide_false, Bool.not_false, if_true, Option.bind_some, e1, e2, e3, List.append_nil]
      · have he : (i : Int) = (k : Int) := by omega
        have e1 : (fr.take i).drop (k + 1) = [] := List.drop_eq_nil_of_le (by rw [List.length_take]; omega)
        have e2 : (fr.take (i + 1)).drop (k + 1) = [] := List.drop_eq_nil_of_le (by rw [List.length_take]; omega)
        have e3 : (fr.take k).take (i + 1) = (fr.take k).take i := by
          rw [List.take_of_length_le (l := fr.take k) (i := i + 1) (by rw [List.length_take]; omega), List.take_of_length_le (l := fr.take k) (i := i) (by rw [List.length_take]; omega)]
        simp only [he, decide_true, Bool.not_true, Bool.false_eq_true, if_false, Option.bind_some, e1, e2, e3, List.append_nil]
      · have hne : ¬ (i : Int) = (k : Int) := by omega
        have e2 : (fr.take (i + 1)).drop (k + 1) = (fr.take i).drop (k + 1) ++ [fr[i]] := by
          rw [take_succ_get hi, List.drop_append_of_le_length (by rw [List.length_take]; omega)]
        have e3 : (fr.take k).take (i + 1) = (fr.take k).take i := by
          rw [List.take_of_length_le (l := fr.take k) (i := i + 1) (by rw [List.length_take]; omega), List.take_of_length_le (l := fr.take k) (i := i) (by rw [List.length_take]; omega)]
        simp only [hne, decide_false, Bool.not_false, if_true, Option.bind_some, e2, e3, List.append_assoc]) (by
      unfold r06_Drop_L1
      rw [← hfr, List.take_length, List.eraseIdx_eq_take_drop_succ, List.take_of_length_le (show (fr.take k).length ≤ fr.length by rw [List.length_take]; omega)]
      simp only [show ¬ (fr.length : Int) < (List.length fr : Int) by omega, decide_false, Bool.false_eq_true, if_false])
    rw [List.take_zero, List.take_zero, List.drop_nil, List.append_nil, show (((0 : Nat) : Int)) = 0 from rfl] at lp
    unfold r06_Drop
    rw [check_is p hp.1, h4]
    simp only [Option.bind_some, decide_true, Bool.not_true, Bool.false_eq_true, if_false, lp]
    rw [← hfr]

end Go.Proofs.Ytihchahfnhoapaa
