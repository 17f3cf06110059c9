/- Layer 6: the law PoolRight on typed data. -/
import Derived.Test.YtihchahfnhoapaaPO06c
import Derived.Test.YtihchahfnhoapaaPO05e
set_option linter.unusedSimpArgs false
set_option linter.unusedVariables false
namespace Go.Proofs.Ytihchahfnhoapaa
open Go.SX

theorem take_both (p : Pool) (hp : goodP p) (n : Int) : ∃ q m e, pool_Take p n = some (q, m, e) ∧ r06_Take p n = some (q, m, e) ∧ goodP q := by
  obtain ⟨q, e, d1, d2, d3, d4, d5⟩ := drop_both p hp n
  rcases has_cases p hp n with ⟨e', h1, h2⟩ | ⟨k, rfl, h2, h3, h4⟩
  · have he := d5 e' h2
    subst he
    have hq := d4 h1
    subst hq
    refine ⟨q, Msg.mk 0 0 0 0 0 0 false 0 0, e, ?_, ?_, d3⟩
    · unfold pool_Take
      simp only [d1, Option.bind_some, h1, decide_false, Bool.not_false, if_true]
    · unfold r06_Take
      rw [check_is q hp.1, h2]
      simp only [Option.bind_some, h1, decide_false, Bool.not_false, if_true]
  · have he := d5 0 h4
    subst he
    obtain ⟨c, hc, hc2⟩ := cast_of (l := (Pool.Frames p)[k]) (fun x hx => (hp.2 _ (List.getElem_mem h2)).2 x hx)
    have hcl : c.length ≤ 1000 := by
      have := (hp.2 _ (List.getElem_mem h2)).1
      rw [hc, castL_len] at this
      exact this
    have hg : getO (Pool.Frames p) (k : Int) = some (castL c) := by rw [getO_in h2, hc]
    refine ⟨q, (readS c).1, (readS c).2, ?_, ?_, d3⟩
    · unfold pool_Take
      simp only [d1, Option.bind_some, decide_true, Bool.not_true, Bool.false_eq_true, if_false, hg, frame_Read_eq c hcl hc2]
    · unfold r06_Take
      rw [check_is p hp.1, h4]
      simp only [d2, Option.bind_some, decide_true, Bool.not_true, Bool.false_eq_true, if_false, hg, r05_Read_eq c hcl hc2]
theorem twice_both (p : Pool) (hp : goodP p) (n : Int) : ∃ q e, pool_Twice p n = some (q, e) ∧ r06_Twice p n = some (q, e) ∧ goodP q := by
  have hsp := good_small hp
  have heta : Pool.mk (Pool.Frames p) = p := rfl
  have hcp := copy_loop (f := pool_Twice_L1 (Pool.Frames p) (List.length (Pool.Frames p) : Int)) (fr := Pool.Frames p) (fun s => rfl) hsp.1 hsp.2
  unfold pool_Twice r06_Twice
  rw [check_is p hp.1]
  rcases has_cases p hp n with ⟨e, h1, h2⟩ | ⟨k, rfl, h2, h3, h4⟩
  · refine ⟨p, e, ?_, ?_, hp⟩
    · simp only [h2, Option.bind_some, h1, decide_false, Bool.not_false, if_true, hcp, heta]
    · simp only [h2, Option.bind_some, h1, decide_false, Bool.not_false, if_true]
  · obtain ⟨g1, g2⟩ := poolB_iff.1 h3
    have hroom := pool_Room_eq p hp.1
    rw [h3, if_pos rfl] at hroom
    obtain ⟨b, hb⟩ : ∃ b, b = (Pool.Frames p)[k] := ⟨_, rfl⟩
    have hbg := hp.2 _ (List.getElem_mem h2)
    rw [← hb] at hbg
    have hg : getO (Pool.Frames p) (k : Int) = some b := by rw [getO_in h2, hb]
    have had := add_eq p hp b
    by_cases h64 : 64 ≤ (Pool.Frames p).length
    · rw [if_pos h64] at had
      have he : (64 : Int) - ((Pool.Frames p).length : Int) = 0 := by omega
      refine ⟨p, 6, ?_, ?_, hp⟩
      · simp only [h4, Option.bind_some, decide_true, Bool.not_true, Bool.false_eq_true, if_false, hcp, heta, hg, hroom, he, if_true]
      · simp only [h4, Option.bind_some, decide_true, Bool.not_true, Bool.false_eq_true, if_false, hg, had]
    · rw [if_neg h64] at had
      have hne : ¬ (64 : Int) - ((Pool.Frames p).length : Int) = 0 := by omega
      have hc : cloneO 1 b = some b := cloneO_small (by have := hbg.1; omega) (by omega)
      have ha : appO 24 (Pool.Frames p) ([b] : List (List Int)) = some (Pool.Frames p ++ [b]) := appO_small (by simp; omega) (by omega)
      refine ⟨Pool.mk (Pool.Frames p ++ [b]), 0, ?_, ?_, good_app hp g1 hbg⟩
      · simp only [h4, Option.bind_some, decide_true, Bool.not_true, Bool.false_eq_true, if_false, hcp, heta, hg, hroom, hne, decide_false, hc, ha]
      · simp only [h4, Option.bind_some, decide_true, Bool.not_true, Bool.false_eq_true, if_false, hg, had]

theorem pow_loop (bit : Int) (b : Nat) (hb : b < 8) (h : remO bit (8 : Int) = some (b : Int)) : loopD (r06_Spoil_L1 bit) ((1 : Int), (0 : Int)) = some ((2 ^ b : Nat) : Int) := by
  have lp := loop_good (f := r06_Spoil_L1 bit) (n := b) (e := ((2 ^ b : Nat) : Int)) (fun i => (((2 ^ i : Nat) : Int), (i : Int))) (fun i hi => by
    have hlt : (i : Int) < (b : Int) := by omega
    have hp : 2 ^ (i + 1) < 256 := Nat.pow_lt_pow_right (a := 2) (n := 8) (by omega) (by omega)
    have hps : 2 ^ (i + 1) = 2 ^ i * 2 := Nat.pow_succ 2 i
    have hw : wu8 (((2 ^ i : Nat) : Int) * 2) = ((2 ^ (i + 1) : Nat) : Int) := by
      rw [show ((2 ^ i : Nat) : Int) * 2 = ((2 ^ (i + 1) : Nat) : Int) by rw [hps]; omega, wu8_nat, Nat.mod_eq_of_lt hp]
    unfold r06_Spoil_L1
    simp only [h, Option.bind_some, hlt, decide_true, if_true, hw, w64_succ (show i < 4611686018427387904 by omega)]) (by
    unfold r06_Spoil_L1
    simp only [h, Option.bind_some, show ¬ (b : Int) < (b : Int) by omega, decide_false, Bool.false_eq_true, if_false])
  exact lp
theorem shl_bit' (k : Nat) (hk : k < 8) : shlO .u8 (1 : Int) (k : Int) = some ((2 ^ k : Nat) : Int) := by
  have h : ∀ k, k < 8 → shlO .u8 (1 : Int) ((k : Nat) : Int) = some ((2 ^ k : Nat) : Int) := by decide
  exact h k hk
theorem quo8' (i : Nat) (hi : i < 152) : quoO .i64 (i : Int) (8 : Int) = some ((i / 8 : Nat) : Int) := by
  unfold quoO
  rw [if_neg (by omega), Int.tdiv_eq_ediv_of_nonneg (by omega)]
  have h1 : ((i : Int) / (8 : Int)) = ((i / 8 : Nat) : Int) := (Int.natCast_ediv i 8).symm
  rw [h1]
  exact congrArg some (w64_nat (by omega))
theorem spoil_both (p : Pool) (hp : goodP p) (n bit : Int) : ∃ q e, pool_Spoil p n bit = some (q, e) ∧ r06_Spoil p n bit = some (q, e) ∧ goodP q := by
  have hsp := good_small hp
  have heta : Pool.mk (Pool.Frames p) = p := rfl
  have hcp := copy_loop (f := pool_Twice_L1 (Pool.Frames p) (List.length (Pool.Frames p) : Int)) (fr := Pool.Frames p) (fun s => rfl) hsp.1 hsp.2
  unfold pool_Spoil r06_Spoil
  rw [check_is p hp.1]
  rcases has_cases p hp n with ⟨e, h1, h2⟩ | ⟨k, rfl, h2, h3, h4⟩
  · refine ⟨p, e, ?_, ?_, hp⟩
    · simp only [h2, Option.bind_some, h1, decide_false, Bool.false_and, cond_false, Bool.false_eq_true, if_false, hcp, heta]
    · simp only [h2, Option.bind_some, h1, decide_false, Bool.not_false, if_true]
  · obtain ⟨g1, g2⟩ := poolB_iff.1 h3
    by_cases hbit : bit < 0 ∨ 152 ≤ bit
    · have c1 : ((decide (bit < (0 : Int))) || (decide ((152 : Int) ≤ bit))) = true := by simp only [Bool.or_eq_true, decide_eq_true_eq]; exact hbit
      have c2 : ((decide (bit < (0 : Int))) || (decide ((151 : Int) < bit))) = true := by simp only [Bool.or_eq_true, decide_eq_true_eq]; omega
      refine ⟨p, 1, ?_, ?_, hp⟩
      · simp only [h4, Option.bind_some, decide_true, c1, Bool.and_self, cond_true, show ¬ (1 : Int) = 0 by omega, decide_false, Bool.false_eq_true, if_false, hcp, heta]
      · simp only [h4, Option.bind_some, decide_true, Bool.not_true, Bool.false_eq_true, if_false, c2, if_true]
    · have c1 : ((decide (bit < (0 : Int))) || (decide ((152 : Int) ≤ bit))) = false := by
        rw [Bool.eq_false_iff]; intro q; simp only [Bool.or_eq_true, decide_eq_true_eq] at q; exact hbit q
      have c2 : ((decide (bit < (0 : Int))) || (decide ((151 : Int) < bit))) = false := by
        rw [Bool.eq_false_iff]; intro q; simp only [Bool.or_eq_true, decide_eq_true_eq] at q; omega
      obtain ⟨t, rfl⟩ : ∃ t : Nat, bit = (t : Int) := ⟨bit.toNat, by omega⟩
      have ht : t < 152 := by omega
      obtain ⟨b, hb⟩ : ∃ b, b = (Pool.Frames p)[k] := ⟨_, rfl⟩
      have hbg := hp.2 _ (List.getElem_mem h2)
      have hb19 : b.length = 19 := by rw [hb]; exact g2 _ (List.getElem_mem h2)
      rw [← hb] at hbg
      have hg : getO (Pool.Frames p) (k : Int) = some b := by rw [getO_in h2, hb]
      have hix : idxO (List.length (Pool.Frames p) : Int) (k : Int) = some (k : Int) := idxO_in h2
      have ht8 : t / 8 < b.length := by omega
      have hib : idxO (List.length b : Int) ((t / 8 : Nat) : Int) = some ((t / 8 : Nat) : Int) := idxO_in ht8
      have hq := quo8' t ht
      have hr : remO (t : Int) (8 : Int) = some ((t % 8 : Nat) : Int) := rem_is t 8 (by omega)
      have hsh := shl_bit' (t % 8) (by omega)
      have hpl := pow_loop (t : Int) (t % 8) (by omega) hr
      obtain ⟨v, hv⟩ : ∃ v, v = bXor .u8 b[t / 8] ((2 ^ (t % 8) : Nat) : Int) := ⟨_, rfl⟩
      have hvin : 0 ≤ v ∧ v < 256 := by
        have hbx := hbg.2 _ (List.getElem_mem ht8)
        obtain ⟨c, hc⟩ : ∃ c : Nat, b[t / 8] = (c : Int) := ⟨b[t / 8].toNat, by omega⟩
        rw [hv, hc, xor_is8 _ _ (by omega) (pow8 t)]
        have := Nat.xor_lt_two_pow (n := 8) (x := c) (y := 2 ^ (t % 8)) (by simp; omega) (by have := pow8 t; simpa using this)
        omega
      have hsb : setO b ((t / 8 : Nat) : Int) v = some (b.set (t / 8) v) := setO_in ht8
      have hsp2 : setO (Pool.Frames p) (k : Int) (b.set (t / 8) v) = some ((Pool.Frames p).set k (b.set (t / 8) v)) := setO_in h2
      have a1 : appO 1 ([] : List Int) b = some b := by rw [appO_small (by simp; omega) (by omega), List.nil_append]
      have a2 : appO 24 ([] : List (List Int)) (Pool.Frames p) = some (Pool.Frames p) := by rw [appO_small (by simp; omega) (by omega), List.nil_append]
      refine ⟨Pool.mk ((Pool.Frames p).set k (b.set (t / 8) v)), 0, ?_, ?_, ?_⟩
      · simp only [h4, Option.bind_some, decide_true, c1, Bool.and_false, cond_false, if_true, hcp, hix, hq, hg, hib, getO_in ht8, hr, hsh, ← hv, hsb, hsp2]
      · simp only [h4, Option.bind_some, decide_true, Bool.not_true, Bool.false_eq_true, if_false, c2, hpl, hg, a1, hq, hib, getO_in ht8, ← hv, hsb, a2, hix, hsp2]
      · refine ⟨by show ((Pool.Frames p).set k _).length ≤ 1000; rw [List.length_set]; exact hp.1, fun c hc => ?_⟩
        rcases List.mem_or_eq_of_mem_set hc with q | q
        · exact hp.2 c q
        · rw [q]
          refine ⟨by rw [List.length_set]; omega, fun y hy => ?_⟩
          rcases List.mem_or_eq_of_mem_set hy with q2 | q2
          · exact hbg.2 y q2
          · rw [q2]; exact hvin

theorem short_pool (p : Pool) : ∃ b, r06_Short p = some b ∧ (b = true → (Pool.Frames p).length ≤ 80 ∧ ∀ c ∈ Pool.Frames p, c.length ≤ 100) := by
  unfold r06_Short
  by_cases c7 : (80 : Int) < (List.length (Pool.Frames p) : Int)
  · simp only [c7, decide_true, if_true]; exact ⟨false, rfl, fun h => by cases h⟩
  · have lp := check_all (f := r06_Short_L1 p) (n := (Pool.Frames p).length) (g := fun _ => some true) (fun i => (i : Int)) (fun i => optT (fun c => decide (c.length ≤ 100)) (Pool.Frames p)[i]?) (fun i hi _ => by
      have hlt : (i : Int) < (List.length (Pool.Frames p) : Int) := by omega
      rw [optT_in hi]
      unfold r06_Short_L1
      simp only [hlt, decide_true, if_true, getO_in hi, Option.bind_some, w64_succ (show i < 4611686018427387904 by omega)]
      by_cases h : (Pool.Frames p)[i].length ≤ 100
      · have h' : ¬ (100 : Int) < ((Pool.Frames p)[i].length : Int) := by omega
        simp only [h, h', decide_true, decide_false, Bool.false_eq_true, if_false, if_true]
      · have h' : (100 : Int) < ((Pool.Frames p)[i].length : Int) := by omega
        simp only [h, h', decide_true, decide_false, Bool.false_eq_true, if_false, if_true]) (fun _ => by
      unfold r06_Short_L1
      simp only [show ¬ (List.length (Pool.Frames p) : Int) < (List.length (Pool.Frames p) : Int) by omega, decide_false, Bool.false_eq_true, if_false])
    rw [show (((0 : Nat) : Int)) = 0 from rfl, ← all_range] at lp
    simp only [c7, decide_false, Bool.false_eq_true, if_false, lp]
    by_cases ha : ((Pool.Frames p).all fun c => decide (c.length ≤ 100)) = true
    · rw [if_pos ha]
      rw [List.all_eq_true] at ha
      exact ⟨true, rfl, fun _ => ⟨by omega, fun c hc => of_decide_eq_true (ha c hc)⟩⟩
    · rw [if_neg ha]
      exact ⟨false, rfl, fun h => by cases h⟩

theorem poolRight_all (p : Pool) (m : Msg) (n bit : Int) (hby : ∀ b ∈ Pool.Frames p, ∀ x ∈ b, 0 ≤ x ∧ x < 256) (hn : 0 ≤ Msg.Num m ∧ Msg.Num m < 4294967296) (hv : 0 ≤ Msg.Val m ∧ Msg.Val m < 4294967296) : l06_PoolRight p m n bit = some true := by
  unfold l06_PoolRight
  obtain ⟨s, hs, hS⟩ := short_pool p
  rw [hs]
  cases s
  · rfl
  obtain ⟨s1, s2⟩ := hS rfl
  have hp : goodP p := ⟨by omega, fun b hb => ⟨by have := s2 b hb; omega, hby b hb⟩⟩
  have heta : Pool.mk (Pool.Frames p) = p := rfl
  have lp := loop_good (f := l06_PoolRight_L1 p) (n := (Pool.Frames p).length) (e := Pool.Frames p) (fun i => ((i : Int), (Pool.Frames p).take i)) (fun i hi => by
    have hlt : (i : Int) < (List.length (Pool.Frames p) : Int) := by omega
    have hbi := s2 _ (List.getElem_mem hi)
    have hc : appO 1 ([] : List Int) (Pool.Frames p)[i] = some (Pool.Frames p)[i] := by rw [appO_small (by simp; omega) (by omega), List.nil_append]
    have ha : appO 24 ((Pool.Frames p).take i) ([(Pool.Frames p)[i]] : List (List Int)) = some ((Pool.Frames p).take (i + 1)) := by
      rw [appO_small (by simp; omega) (by omega), take_succ_get hi]
    unfold l06_PoolRight_L1
    simp only [hlt, decide_true, if_true, getO_in hi, Option.bind_some, hc, ha, w64_succ (show i < 4611686018427387904 by omega)]) (by
    unfold l06_PoolRight_L1
    simp only [show ¬ (List.length (Pool.Frames p) : Int) < (List.length (Pool.Frames p) : Int) by omega, decide_false, Bool.false_eq_true, if_false, List.take_length])
  rw [List.take_zero, show (((0 : Nat) : Int)) = 0 from rfl] at lp
  obtain ⟨q1, e1, a1, a2, a3⟩ := send_both p hp m hn hv
  obtain ⟨q2, m2, e2, b1, b2, b3⟩ := take_both p hp n
  obtain ⟨q3, e3, c1, c2, c3, _, _⟩ := drop_both p hp n
  obtain ⟨q4, e4, d1, d2, d3⟩ := twice_both p hp n
  obtain ⟨q5, e5, f1, f2, f3⟩ := spoil_both p hp n bit
  have hroom := pool_Room_eq p hp.1
  have hdm : @decide (m2 = m2) (Ty.dec tMsg _ _) = true := @decide_eq_true (m2 = m2) (Ty.dec tMsg m2 m2) rfl
  have hrm : (if poolB p = true then (64 : Int) - ((Pool.Frames p).length : Int) else 0) = (bif poolB p then w64 ((64 : Int) - (List.length (Pool.Frames p) : Int)) else (0 : Int)) := by
    cases hr : poolB p
    · rfl
    · have := (poolB_iff.1 hr).1
      rw [if_pos rfl, cond_true, w64_id (by omega) (by omega)]
  rw [hrm] at hroom
  simp only [l06_awake, Bool.not_true, Bool.false_eq_true, if_false, Option.bind_some, lp, heta, a1, a2, same_refl a3, decide_true, b1, b2, same_refl b3, hdm, c1, c2, same_refl c3, d1, d2, same_refl d3, f1, f2, same_refl f3, r06_Right_eq p hp.1, pool_Right_eq p hp.1, if_true, hroom, same_refl hp]

theorem poolRight_ok (x : Ty.Tup F_l06_PoolRight.ps) (h : OkL F_l06_PoolRight.ps x) : F_l06_PoolRight.sem x = some true :=
  poolRight_all x.1 x.2.1 x.2.2.1 x.2.2.2 (fun b hb y hy => by
    have := (h.1.2 b hb).2 y hy
    exact ⟨this.1, Int.lt_of_le_of_lt this.2 (by decide)⟩)
    ⟨h.2.1.2.2.2.2.2.2.2.1.1, Int.lt_of_le_of_lt h.2.1.2.2.2.2.2.2.2.1.2 (by decide)⟩ ⟨h.2.1.2.2.2.2.2.2.2.2.1, Int.lt_of_le_of_lt h.2.1.2.2.2.2.2.2.2.2.2 (by decide)⟩

end Go.Proofs.Ytihchahfnhoapaa
