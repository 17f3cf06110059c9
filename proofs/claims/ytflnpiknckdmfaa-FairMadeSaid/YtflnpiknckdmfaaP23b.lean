/- Layer 23: turns made one after another. -/
import Derived.Test.YtflnpiknckdmfaaP23
set_option linter.unusedSimpArgs false
set_option linter.unusedVariables false
namespace Go.Proofs.Ytflnpiknckdmfaa
open Go.SX

/-! ### Many of one after another (slices.Repeat) -/
theorem bAnd_low (x : Nat) (hx : x < 4294967296) : bAnd .u64 (x : Int) (4294967295 : Int) = (x : Int) := by
  unfold bAnd
  have h1 : (BitVec.ofInt 64 (x : Int) &&& BitVec.ofInt 64 (4294967295 : Int)).toNat = x := by
    rw [BitVec.toNat_and]
    have h2 : (BitVec.ofInt 64 (x : Int)).toNat = x := by
      rw [BitVec.ofInt_natCast, BitVec.toNat_ofNat, Nat.mod_eq_of_lt (by omega)]
    have h3 : (BitVec.ofInt 64 (4294967295 : Int)).toNat = 2 ^ 32 - 1 := by decide
    rw [h2, h3, Nat.and_two_pow_sub_one_eq_mod, Nat.mod_eq_of_lt (by omega)]
  show IntKind.wrap .u64 ((BitVec.ofInt 64 (x : Int) &&& BitVec.ofInt 64 (4294967295 : Int)).toNat : Int) = (x : Int)
  rw [h1]
  exact wu64_nat (by omega)
theorem shr_low (x : Nat) (hx : x < 4294967296) : shrO .u64 (x : Int) (32 : Int) = some 0 := by
  unfold shrO
  rw [if_neg (by omega)]
  congr 1
  have : (2 : Int) ^ (min (32 : Int).toNat (IntKind.bits .u64)) = 4294967296 := by decide
  rw [this, Int.fdiv_eq_ediv_of_nonneg _ (by omega)]
  omega
theorem mul64_small (x y : Nat) (hx : x ≤ 10000) (hy : y ≤ 10000) : math_bits_Mul64 (x : Int) (y : Int) = some ((0 : Int), ((x * y : Nat) : Int)) := by
  have hxy : x * y ≤ 10000 * 10000 := Nat.mul_le_mul hx hy
  have e : (x : Int) * (y : Int) = ((x * y : Nat) : Int) := by rw [Int.natCast_mul]
  unfold math_bits_Mul64
  simp only [bAnd_low x (by omega), bAnd_low y (by omega), shr_low x (by omega), shr_low y (by omega), Option.bind_some, e, wu64_nat (show x * y < 4611686018427387904 by omega), shr_low (x * y) (by omega), Int.zero_mul, Int.mul_zero]
  have w0 : wu64 0 = 0 := by decide
  have b0 : bAnd .u64 (0 : Int) (4294967295 : Int) = 0 := bAnd_low 0 (by omega)
  have s0 : shrO .u64 (0 : Int) (32 : Int) = some 0 := shr_low 0 (by omega)
  simp only [w0, Int.add_zero, b0, s0, Option.bind_some]

def manyL {α : Type} (x : List α) (n : Nat) : List α := (List.replicate n x).flatten
theorem manyL_len {α : Type} (x : List α) : ∀ n, (manyL x n).length = n * x.length
  | 0 => by simp [manyL]
  | n + 1 => by
    have := manyL_len x n
    unfold manyL at *
    rw [List.replicate_succ, List.flatten_cons, List.length_append, this, Nat.succ_mul]
    omega
theorem manyL_add {α : Type} (x : List α) (a b : Nat) : manyL x (a + b) = manyL x a ++ manyL x b := by
  unfold manyL
  rw [← List.replicate_append_replicate, List.flatten_append]
theorem manyL_drop {α : Type} (x : List α) {a n : Nat} (h : a ≤ n) : (manyL x n).drop (a * x.length) = manyL x (n - a) := by
  have : manyL x n = manyL x a ++ manyL x (n - a) := by rw [← manyL_add]; congr 1; omega
  rw [this, ← manyL_len x a, List.drop_left]
theorem manyL_take {α : Type} (x : List α) {a n : Nat} (h : a ≤ n) : (manyL x n).take (a * x.length) = manyL x a := by
  have : manyL x n = manyL x a ++ manyL x (n - a) := by rw [← manyL_add]; congr 1; omega
  rw [this, ← manyL_len x a, List.take_left]
theorem manyL_pre {α : Type} (x : List α) {a n k : Nat} (h : a ≤ n) (hk : k ≤ a * x.length) : (manyL x n).take k = (manyL x a).take k := by
  have : manyL x n = manyL x a ++ manyL x (n - a) := by rw [← manyL_add]; congr 1; omega
  rw [this, List.take_append_of_le_length (by rw [manyL_len]; exact hk)]

theorem rep_loop (x : List Event) (n : Nat) (hx : 0 < x.length) (hxl : n * x.length ≤ 1000000) : ∀ (d c : Nat) (k : Nat) (l : List Event), n - c = d → c ≤ n → 0 < c → k = c * x.length → l.length = n * x.length → l.take k = (manyL x n).take k →
    loopD slices_Repeat_api_Event_api_Event_L1 ((k : Int), l) = some (manyL x n) := by
  intro d
  induction d using Nat.strongRecOn with
  | ind d ih =>
    intro c k l hd hcn hc0 hk hl ht
    have hkl : k ≤ l.length := by rw [hl, hk]; exact Nat.mul_le_mul_right _ hcn
    by_cases he : c = n
    · have hke : k = l.length := by rw [hl, hk, he]
      have hs : slices_Repeat_api_Event_api_Event_L1 ((k : Int), l) = some (.inr l) := by
        unfold slices_Repeat_api_Event_api_Event_L1
        have : ¬ (k : Int) < (List.length l : Int) := by omega
        simp only [this, decide_false, Bool.false_eq_true, if_false]
      rw [loop_out hs]
      rw [hke, List.take_length, hl, ← manyL_len x n, List.take_length] at ht
      rw [ht]
    · have hlt : c < n := by omega
      have hsum : k + x.length ≤ l.length := by
        have := Nat.mul_le_mul_right x.length (show c + 1 ≤ n by omega)
        rw [Nat.succ_mul] at this
        rw [hl, hk]; exact this
      have hkx : x.length ≤ k := by
        have := Nat.mul_le_mul_right x.length (show 1 ≤ c by omega)
        rw [hk]; omega
      have hltI : (k : Int) < (List.length l : Int) := by omega
      have hr1 : rngO (List.length l : Int) (k : Int) (List.length l : Int) = some (List.length l : Int) := by unfold rngO; rw [if_pos (by omega)]
      have hr2 : rngO (List.length l : Int) (0 : Int) (k : Int) = some (k : Int) := by unfold rngO; rw [if_pos (by omega)]
      have hs : subO l (0 : Int) (k : Int) = some (l.take k) := by
        have := subO_in (l := l) (i := 0) (j := k) (by omega) hkl
        rw [List.drop_zero] at this
        exact this
      have htk : (l.take k).length = k := by rw [List.length_take]; omega
      -- how many new ones
      obtain ⟨m, hm⟩ : ∃ m, m = min k (l.length - k) := ⟨_, rfl⟩
      have hc2 : cpyvO l (k : Int) (List.length l : Int) (l.take k) = some (l.take k ++ ((l.take k).take m ++ l.drop (k + m))) := by
        unfold cpyvO
        rw [if_pos (by omega)]
        have h2 : ((List.length l : Int) - (k : Int)).toNat = l.length - k := by omega
        rw [h2, Int.toNat_natCast]
        have h3 : (l.take k).take (l.length - k) = (l.take k).take m := by
          rw [List.take_take, List.take_take]
          congr 1
          omega
        rw [h3]
        have h4 : ((l.take k).take m).length = m := by rw [List.length_take, htk]; omega
        rw [h4]
      have hmin : minT (List.length (l.take k) : Int) ((List.length l : Int) - (k : Int)) = (m : Int) := by
        rw [htk, show (List.length l : Int) - (k : Int) = ((l.length - k : Nat) : Int) by omega, minT_nat, hm]
      have hw : w64 ((k : Int) + (m : Int)) = ((k + m : Nat) : Int) := by rw [w64_id (by omega) (by omega)]; omega
      have hst : slices_Repeat_api_Event_api_Event_L1 ((k : Int), l) = some (.inl (((k + m : Nat) : Int), l.take k ++ ((l.take k).take m ++ l.drop (k + m)))) := by
        unfold slices_Repeat_api_Event_api_Event_L1
        simp only [hltI, decide_true, if_true, hr1, hr2, hs, hc2, hmin, hw, Option.bind_some]
      rw [loop_next hst]
      -- the next c
      obtain ⟨c', hc'⟩ : ∃ c', c' = min (2 * c) n := ⟨_, rfl⟩
      have hkm : k + m = c' * x.length := by
        rw [hc', hm, hl, hk]
        rcases Nat.le_total (2 * c) n with h | h
        · have h5 : 2 * c * x.length ≤ n * x.length := Nat.mul_le_mul_right _ h
          rw [Nat.mul_assoc] at h5
          rw [Nat.min_eq_left h, Nat.mul_assoc, Nat.min_eq_left (by omega)]
          omega
        · have h5 : n * x.length ≤ 2 * c * x.length := Nat.mul_le_mul_right _ h
          have h6 : c * x.length ≤ n * x.length := Nat.mul_le_mul_right _ hcn
          rw [Nat.mul_assoc] at h5
          rw [Nat.min_eq_right h, Nat.min_eq_right (by omega)]
          omega
      refine ih (n - c') (by omega) c' (k + m) _ rfl (by omega) (by omega) hkm ?_ ?_
      · simp only [List.length_append, List.length_take, List.length_drop]
        omega
      · have h7 : (l.take k ++ ((l.take k).take m ++ l.drop (k + m))).take (k + m) = l.take k ++ (l.take k).take m := by
          rw [← List.append_assoc, List.take_append_of_le_length (by simp only [List.length_append, List.length_take]; omega), List.take_of_length_le (by simp only [List.length_append, List.length_take]; omega)]
        rw [h7, List.take_add, ht]
        congr 1
        rw [List.take_take, Nat.min_eq_left (by omega)]
        have h8 : (manyL x n).drop k = manyL x (n - c) := by rw [hk, manyL_drop x hcn]
        have hmc : m ≤ (n - c) * x.length := by
          rw [Nat.sub_mul, ← hk, ← hl]; omega
        rw [h8, manyL_pre x (show n - c ≤ n by omega) hmc]

theorem repeat_eq (x : List Event) (n : Nat) (hx : 0 < x.length) (hxl : x.length ≤ 10000) (hn : n ≤ 100) : slices_Repeat_api_Event_api_Event x (n : Int) = some (manyL x n) := by
  have hmul : n * x.length ≤ 100 * 10000 := Nat.mul_le_mul hn hxl
  unfold slices_Repeat_api_Event_api_Event
  have h0 : ¬ (n : Int) < 0 := by omega
  have h1 : ¬ (9223372036854775807 : Int) < ((x.length * n : Nat) : Int) := by rw [Nat.mul_comm]; omega
  have hw : w64 ((x.length * n : Nat) : Int) = ((n * x.length : Nat) : Int) := by rw [Nat.mul_comm]; exact w64_nat (by omega)
  have hr := repO_small (z := Event.mk (0 : Int) (0 : Int) (0 : Int)) (b := 24) (n := n * x.length) (by omega) (by omega)
  have hz : ¬ (0 : Int) < 0 := by omega
  obtain ⟨v, hv⟩ : ∃ v, v = List.replicate (n * x.length) (Event.mk (0 : Int) (0 : Int) (0 : Int)) := ⟨_, rfl⟩
  have hvl : v.length = n * x.length := by rw [hv, List.length_replicate]
  have hc : cpyvO v (0 : Int) (List.length v : Int) x = some (x.take v.length ++ v.drop (x.take v.length).length) := by
    unfold cpyvO
    rw [if_pos (by omega)]
    simp
  have hmin : minT (List.length x : Int) ((List.length v : Int) - 0) = ((min x.length v.length : Nat) : Int) := by rw [Int.sub_zero, minT_nat]
  simp only [h0, decide_false, Bool.false_eq_true, if_false, math_bits_Mul, wu64_nat (show x.length < 4611686018427387904 by omega), wu64_nat (show n < 4611686018427387904 by omega), mul64_small x.length n hxl (by omega), Option.bind_some, hz, h1, Bool.or_self, hw, hr, ← hv, hc, hmin]
  by_cases hn0 : n = 0
  · subst hn0
    have hve : v = [] := List.eq_nil_of_length_eq_zero (by rw [hvl]; omega)
    subst hve
    simp only [List.length_nil, List.take_zero, List.nil_append, List.drop_nil, Nat.min_zero]
    have hs : slices_Repeat_api_Event_api_Event_L1 (((0 : Nat) : Int), ([] : List Event)) = some (.inr []) := by
      unfold slices_Repeat_api_Event_api_Event_L1
      simp
    rw [loop_out hs]
    rfl
  · have hge : x.length ≤ v.length := by
      have := Nat.mul_le_mul_right x.length (show 1 ≤ n by omega)
      omega
    rw [Nat.min_eq_left hge, List.take_of_length_le hge]
    rw [rep_loop x n hx (by omega) (n - 1) 1 x.length (x ++ v.drop x.length) (by omega) (by omega) (by omega) (by omega) (by simp; omega) (by
      rw [List.take_left]
      have := manyL_take x (a := 1) (n := n) (by omega)
      rw [Nat.one_mul] at this
      rw [this]
      simp [manyL])]
    rfl

/-! ### Turns -/
def coresL (c : Nat) : List Event := (List.range c).map fun i : Nat => Event.mk 1 (i : Int) 0
def roundL (c f : Nat) : List Event := coresL c ++ List.replicate f (Event.mk 2 0 0) ++ [Event.mk 5 0 0, Event.mk 4 0 0]
theorem coresL_len (c : Nat) : (coresL c).length = c := by simp [coresL]
theorem roundL_len (c f : Nat) : (roundL c f).length = c + f + 2 := by simp [roundL, coresL_len]; omega
theorem coresL_succ (c : Nat) : coresL (c + 1) = coresL c ++ [Event.mk 1 (c : Int) 0] := by simp [coresL, List.range_succ]

def turnsOk (c r f : Int) : Prop := (1 ≤ c ∧ c ≤ 4) ∧ 0 ≤ r ∧ r ≤ 1000 ∧ 0 ≤ f ∧ f ≤ 100

theorem fair_Turns_no {c r f : Int} (h : ¬ turnsOk c r f) : fair_Turns c r f = some [] := by
  unfold fair_Turns
  have : ((!(fair_may c)) || ((decide (r < (0 : Int))) || ((decide ((1000 : Int) < r)) || ((decide (f < (0 : Int))) || (decide ((100 : Int) < f)))))) = true := by
    unfold turnsOk at h
    unfold fair_may
    simp only [Bool.or_eq_true, Bool.not_eq_true', Bool.and_eq_false_iff, decide_eq_true_eq, decide_eq_false_iff_not]
    omega
  simp only [this, if_true]
theorem r23_Turns_no {c r f : Int} (h : ¬ turnsOk c r f) : r23_Turns c r f = some [] := by
  unfold r23_Turns
  have : ((decide (c < (1 : Int))) || ((decide ((4 : Int) < c)) || ((decide (r < (0 : Int))) || ((decide ((1000 : Int) < r)) || ((decide (f < (0 : Int))) || (decide ((100 : Int) < f))))))) = true := by
    unfold turnsOk at h
    simp only [Bool.or_eq_true, decide_eq_true_eq]
    omega
  simp only [this, if_true]

theorem fair_Turns_eq (c r f : Nat) (h1 : 1 ≤ c) (h2 : c ≤ 4) (h3 : r ≤ 100) (h4 : f ≤ 100) : fair_Turns (c : Int) (r : Int) (f : Int) = some (manyL (roundL c f) r) := by
  unfold fair_Turns
  have hc : ((!(fair_may (c : Int))) || ((decide ((r : Int) < (0 : Int))) || ((decide ((1000 : Int) < (r : Int))) || ((decide ((f : Int) < (0 : Int))) || (decide ((100 : Int) < (f : Int))))))) = false := by
    rw [fair_may_iff.2 (by omega)]
    simp
    omega
  have l2 := loop_good (f := fair_Turns_L2 (c : Int)) (n := c) (e := coresL c) (fun i => ((i : Int), coresL i)) (fun i hi => by
    have hlt : (i : Int) < (c : Int) := by omega
    have ha : appO 24 (coresL i) ([Event.mk (1 : Int) (i : Int) (0 : Int)] : List Event) = some (coresL (i + 1)) := by
      rw [appO_small (by rw [coresL_len]; simp; omega) (by omega), coresL_succ]
    unfold fair_Turns_L2
    simp only [hlt, decide_true, if_true, ha, Option.bind_some, w64_succ (show i < 4611686018427387904 by omega)]) (by
    unfold fair_Turns_L2
    simp only [show ¬ (c : Int) < (c : Int) by omega, decide_false, Bool.false_eq_true, if_false])
  have l1 := loop_good (f := fair_Turns_L1 (f : Int)) (n := f) (e := coresL c ++ List.replicate f (Event.mk 2 0 0)) (fun i => ((i : Int), coresL c ++ List.replicate i (Event.mk 2 0 0))) (fun i hi => by
    have hlt : (i : Int) < (f : Int) := by omega
    have ha : appO 24 (coresL c ++ List.replicate i (Event.mk 2 0 0)) ([Event.mk (2 : Int) (0 : Int) (0 : Int)] : List Event) = some (coresL c ++ List.replicate (i + 1) (Event.mk 2 0 0)) := by
      rw [appO_small (by simp [coresL_len]; omega) (by omega), List.replicate_succ', List.append_assoc]
    unfold fair_Turns_L1
    simp only [hlt, decide_true, if_true, ha, Option.bind_some, w64_succ (show i < 4611686018427387904 by omega)]) (by
    unfold fair_Turns_L1
    simp only [show ¬ (f : Int) < (f : Int) by omega, decide_false, Bool.false_eq_true, if_false])
  rw [show (((0 : Nat) : Int)) = 0 from rfl] at l1 l2
  rw [List.replicate_zero, List.append_nil] at l1
  rw [show coresL 0 = ([] : List Event) from rfl] at l2
  have ha : appO 24 (coresL c ++ List.replicate f (Event.mk 2 0 0)) ([(Event.mk (5 : Int) (0 : Int) (0 : Int)), (Event.mk (4 : Int) (0 : Int) (0 : Int))] : List Event) = some (roundL c f) := by
    rw [appO_small (by simp [coresL_len]; omega) (by omega)]
    rfl
  have hr := repeat_eq (roundL c f) r (by rw [roundL_len]; omega) (by rw [roundL_len]; omega) h3
  simp only [hc, Bool.false_eq_true, if_false, l2, l1, ha, hr, Option.bind_some]

theorem r23_Turns_eq (c r f : Nat) (h1 : 1 ≤ c) (h2 : c ≤ 4) (h3 : r ≤ 100) (h4 : f ≤ 100) : r23_Turns (c : Int) (r : Int) (f : Int) = some (manyL (roundL c f) r) := by
  unfold r23_Turns
  have hc : ((decide ((c : Int) < (1 : Int))) || ((decide ((4 : Int) < (c : Int))) || ((decide ((r : Int) < (0 : Int))) || ((decide ((1000 : Int) < (r : Int))) || ((decide ((f : Int) < (0 : Int))) || (decide ((100 : Int) < (f : Int)))))))) = false := by
    simp
    omega
  have hround : ∀ k, k < r → ∀ out : List Event, out.length ≤ 20000 →
      (loopD (r23_Turns_L2 (c : Int)) ((0 : Int), out) = some (out ++ coresL c)) ∧ (loopD (r23_Turns_L1 (f : Int)) ((0 : Int), out ++ coresL c) = some (out ++ coresL c ++ List.replicate f (Event.mk 2 0 0))) := fun k _ out ho => by
    have l2 := loop_good (f := r23_Turns_L2 (c : Int)) (n := c) (e := out ++ coresL c) (fun i => ((i : Int), out ++ coresL i)) (fun i hi => by
      have hlt : (i : Int) < (c : Int) := by omega
      have ha : appO 24 (out ++ coresL i) ([Event.mk (1 : Int) (i : Int) (0 : Int)] : List Event) = some (out ++ coresL (i + 1)) := by
        rw [appO_small (by simp [coresL_len]; omega) (by omega), coresL_succ, List.append_assoc]
      unfold r23_Turns_L2
      simp only [hlt, decide_true, if_true, ha, Option.bind_some, w64_succ (show i < 4611686018427387904 by omega)]) (by
      unfold r23_Turns_L2
      simp only [show ¬ (c : Int) < (c : Int) by omega, decide_false, Bool.false_eq_true, if_false])
    have l1 := loop_good (f := r23_Turns_L1 (f : Int)) (n := f) (e := out ++ coresL c ++ List.replicate f (Event.mk 2 0 0)) (fun i => ((i : Int), out ++ coresL c ++ List.replicate i (Event.mk 2 0 0))) (fun i hi => by
      have hlt : (i : Int) < (f : Int) := by omega
      have ha : appO 24 (out ++ coresL c ++ List.replicate i (Event.mk 2 0 0)) ([Event.mk (2 : Int) (0 : Int) (0 : Int)] : List Event) = some (out ++ coresL c ++ List.replicate (i + 1) (Event.mk 2 0 0)) := by
        rw [appO_small (by simp [coresL_len]; omega) (by omega), List.replicate_succ', List.append_assoc (out ++ coresL c)]
      unfold r23_Turns_L1
      simp only [hlt, decide_true, if_true, ha, Option.bind_some, w64_succ (show i < 4611686018427387904 by omega)]) (by
      unfold r23_Turns_L1
      simp only [show ¬ (f : Int) < (f : Int) by omega, decide_false, Bool.false_eq_true, if_false])
    rw [show (((0 : Nat) : Int)) = 0 from rfl] at l1 l2
    rw [List.replicate_zero, List.append_nil] at l1
    rw [show coresL 0 = ([] : List Event) from rfl, List.append_nil] at l2
    exact ⟨l2, l1⟩
  have lp := loop_good (f := r23_Turns_L3 (c : Int) (r : Int) (f : Int)) (n := r) (e := manyL (roundL c f) r) (fun i => ((i : Int), manyL (roundL c f) i)) (fun i hi => by
    have hlt : (i : Int) < (r : Int) := by omega
    have hml : (manyL (roundL c f) i).length ≤ 100 * 106 := by
      rw [manyL_len, roundL_len]
      exact Nat.mul_le_mul (by omega) (by omega)
    obtain ⟨l2, l1⟩ := hround i hi (manyL (roundL c f) i) (by omega)
    have ha : appO 24 (manyL (roundL c f) i ++ coresL c ++ List.replicate f (Event.mk 2 0 0)) ([(Event.mk (5 : Int) (0 : Int) (0 : Int)), (Event.mk (4 : Int) (0 : Int) (0 : Int))] : List Event) = some (manyL (roundL c f) (i + 1)) := by
      rw [appO_small (by simp [coresL_len]; omega) (by omega), manyL_add]
      have h1 : manyL (roundL c f) 1 = roundL c f := by simp [manyL]
      rw [h1]
      simp [roundL]
    unfold r23_Turns_L3
    simp only [hlt, decide_true, if_true, l2, l1, ha, Option.bind_some, w64_succ (show i < 4611686018427387904 by omega)]) (by
    unfold r23_Turns_L3
    simp only [show ¬ (r : Int) < (r : Int) by omega, decide_false, Bool.false_eq_true, if_false])
  rw [show (((0 : Nat) : Int)) = 0 from rfl, show manyL (roundL c f) 0 = [] from rfl] at lp
  simp only [hc, Bool.false_eq_true, if_false, lp, Option.bind_some]

end Go.Proofs.Ytflnpiknckdmfaa
