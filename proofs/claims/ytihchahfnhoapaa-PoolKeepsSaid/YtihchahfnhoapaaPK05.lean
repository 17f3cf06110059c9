/- Layer 5: sums and words of bytes. -/
import Derived.Test.YtihchahfnhoapaaPG
import Derived.Test.YtihchahfnhoapaaD161
set_option linter.unusedSimpArgs false
set_option linter.unusedVariables false
namespace Go.Proofs.Ytihchahfnhoapaa
open Go.SX

/-! ### Numbers -/
theorem xor_is8 (x y : Nat) (hx : x < 256) (hy : y < 256) : bXor .u8 (x : Int) (y : Int) = ((x ^^^ y : Nat) : Int) := by
  have h : (BitVec.ofInt (IntKind.bits .u8) (x : Int) ^^^ BitVec.ofInt (IntKind.bits .u8) (y : Int)).toNat = x ^^^ y := by
    have e1 : BitVec.ofInt (IntKind.bits .u8) (x : Int) = BitVec.ofNat 8 x := BitVec.ofInt_natCast 8 x
    have e2 : BitVec.ofInt (IntKind.bits .u8) (y : Int) = BitVec.ofNat 8 y := BitVec.ofInt_natCast 8 y
    rw [e1, e2]
    show (BitVec.ofNat 8 x ^^^ BitVec.ofNat 8 y).toNat = _
    rw [BitVec.toNat_xor, BitVec.toNat_ofNat, BitVec.toNat_ofNat, Nat.mod_eq_of_lt (by simpa using hx), Nat.mod_eq_of_lt (by simpa using hy)]
  have hl : x ^^^ y < 256 := Nat.xor_lt_two_pow (n := 8) (by simpa using hx) (by simpa using hy)
  unfold bXor
  rw [h]
  exact wu8_id (by omega) (by omega)
theorem xor_lt (x y : Nat) (hx : x < 4294967296) (hy : y < 4294967296) : x ^^^ y < 4294967296 := Nat.xor_lt_two_pow (n := 32) (by simpa using hx) (by simpa using hy)
theorem xor_is (x y : Nat) (hx : x < 4294967296) (hy : y < 4294967296) : bXor .u32 (x : Int) (y : Int) = ((x ^^^ y : Nat) : Int) := by
  have h : (BitVec.ofInt (IntKind.bits .u32) (x : Int) ^^^ BitVec.ofInt (IntKind.bits .u32) (y : Int)).toNat = x ^^^ y := by
    have e1 : BitVec.ofInt (IntKind.bits .u32) (x : Int) = BitVec.ofNat 32 x := BitVec.ofInt_natCast 32 x
    have e2 : BitVec.ofInt (IntKind.bits .u32) (y : Int) = BitVec.ofNat 32 y := BitVec.ofInt_natCast 32 y
    rw [e1, e2]
    show (BitVec.ofNat 32 x ^^^ BitVec.ofNat 32 y).toNat = _
    rw [BitVec.toNat_xor, BitVec.toNat_ofNat, BitVec.toNat_ofNat, Nat.mod_eq_of_lt (by simpa using hx), Nat.mod_eq_of_lt (by simpa using hy)]
  have hl := xor_lt x y hx hy
  unfold bXor
  rw [h]
  exact wu32_id (by omega) (by omega)
theorem and1_is (x : Nat) (hx : x < 4294967296) : bAnd .u32 (x : Int) (1 : Int) = ((x % 2 : Nat) : Int) := by
  have h : (BitVec.ofInt (IntKind.bits .u32) (x : Int) &&& BitVec.ofInt (IntKind.bits .u32) (1 : Int)).toNat = x % 2 := by
    have e1 : BitVec.ofInt (IntKind.bits .u32) (x : Int) = BitVec.ofNat 32 x := BitVec.ofInt_natCast 32 x
    have e2 : BitVec.ofInt (IntKind.bits .u32) (1 : Int) = BitVec.ofNat 32 1 := BitVec.ofInt_natCast 32 1
    rw [e1, e2]
    show (BitVec.ofNat 32 x &&& BitVec.ofNat 32 1).toNat = _
    rw [BitVec.toNat_and, BitVec.toNat_ofNat, BitVec.toNat_ofNat, Nat.mod_eq_of_lt (by simpa using hx), Nat.mod_eq_of_lt (by decide), Nat.and_one_is_mod]
  unfold bAnd
  rw [h]
  exact wu32_id (by omega) (by omega)
theorem or_is (x y : Nat) (hx : x < 4294967296) (hy : y < 4294967296) : bOr .u32 (x : Int) (y : Int) = ((x ||| y : Nat) : Int) := by
  have h : (BitVec.ofInt (IntKind.bits .u32) (x : Int) ||| BitVec.ofInt (IntKind.bits .u32) (y : Int)).toNat = x ||| y := by
    have e1 : BitVec.ofInt (IntKind.bits .u32) (x : Int) = BitVec.ofNat 32 x := BitVec.ofInt_natCast 32 x
    have e2 : BitVec.ofInt (IntKind.bits .u32) (y : Int) = BitVec.ofNat 32 y := BitVec.ofInt_natCast 32 y
    rw [e1, e2]
    show (BitVec.ofNat 32 x ||| BitVec.ofNat 32 y).toNat = _
    rw [BitVec.toNat_or, BitVec.toNat_ofNat, BitVec.toNat_ofNat, Nat.mod_eq_of_lt (by simpa using hx), Nat.mod_eq_of_lt (by simpa using hy)]
  have hl : x ||| y < 4294967296 := Nat.or_lt_two_pow (n := 32) (by simpa using hx) (by simpa using hy)
  unfold bOr
  rw [h]
  exact wu32_id (by omega) (by omega)
theorem not_is (x : Nat) (hx : x < 4294967296) : bNot .u32 (x : Int) = ((4294967295 - x : Nat) : Int) := by
  have h : (BitVec.ofInt (IntKind.bits .u32) (if IntKind.signed .u32 = true then -1 else IntKind.max .u32) ^^^ BitVec.ofInt (IntKind.bits .u32) (x : Int)).toNat = 4294967295 - x := by
    have e1 : BitVec.ofInt (IntKind.bits .u32) (x : Int) = BitVec.ofNat 32 x := BitVec.ofInt_natCast 32 x
    have e2 : BitVec.ofInt (IntKind.bits .u32) (if IntKind.signed .u32 = true then -1 else IntKind.max .u32) = BitVec.allOnes 32 := by show BitVec.ofInt 32 _ = BitVec.allOnes 32; decide
    rw [e1, e2]
    show (BitVec.allOnes 32 ^^^ BitVec.ofNat 32 x).toNat = _
    rw [BitVec.allOnes_xor, BitVec.toNat_not, BitVec.toNat_ofNat, Nat.mod_eq_of_lt (by simpa using hx)]
  unfold bNot
  rw [h]
  exact wu32_id (by omega) (by omega)
theorem shr_is (x k : Nat) (hk : k ≤ 32) : shrO .u32 (x : Int) (k : Int) = some ((x / 2 ^ k : Nat) : Int) := by
  unfold shrO
  rw [if_neg (by omega), Int.toNat_natCast]
  have h1 : min k (IntKind.bits .u32) = k := Nat.min_eq_left hk
  rw [h1, Int.fdiv_eq_ediv_of_nonneg _ (by exact Int.le_of_lt (Int.pow_pos (by decide)))]
  congr 1
theorem quo_is (x k : Nat) (hx : x < 4294967296) (hk : 0 < k) : quoO .u32 (x : Int) (k : Int) = some ((x / k : Nat) : Int) := by
  unfold quoO
  rw [if_neg (by omega), Int.tdiv_eq_ediv_of_nonneg (by omega)]
  congr 1
  have h1 : ((x : Int) / (k : Int)) = ((x / k : Nat) : Int) := (Int.natCast_ediv x k).symm
  have h2 : x / k ≤ x := Nat.div_le_self x k
  rw [h1]
  generalize x / k = y at h2
  exact wu32_id (by omega) (by omega)
theorem rem_is (x k : Nat) (hk : 0 < k) : remO (x : Int) (k : Int) = some ((x % k : Nat) : Int) := by
  unfold remO
  rw [if_neg (by omega), Int.tmod_eq_emod_of_nonneg (by omega)]
  congr 1

/-! ### The sum -/
def stepN (n : Nat) : Nat := if n % 2 = 1 then n / 2 ^^^ 3988292384 else n / 2
def iterN : Nat → Nat → Nat | 0, n => n | k + 1, n => iterN k (stepN n)
def byteN (n v : Nat) : Nat := iterN 8 (n ^^^ v)
def crcF (n : Nat) (l : List Nat) : Nat := l.foldl byteN n
def crcN (l : List Nat) : Nat := 4294967295 - crcF 4294967295 l
theorem stepN_lt {n : Nat} (h : n < 4294967296) : stepN n < 4294967296 := by
  unfold stepN
  split
  · exact xor_lt _ _ (by omega) (by omega)
  · omega
theorem iterN_lt : ∀ (k : Nat) {n : Nat}, n < 4294967296 → iterN k n < 4294967296
  | 0, n, h => h
  | k + 1, n, h => iterN_lt k (stepN_lt h)
theorem byteN_lt {n v : Nat} (h : n < 4294967296) (hv : v < 256) : byteN n v < 4294967296 := iterN_lt 8 (xor_lt _ _ h (by omega))
theorem crcF_lt : ∀ (l : List Nat) {n : Nat}, n < 4294967296 → (∀ x ∈ l, x < 256) → crcF n l < 4294967296
  | [], n, h, _ => h
  | x :: l, n, h, hl => crcF_lt l (byteN_lt h (hl x List.mem_cons_self)) fun y hy => hl y (List.mem_cons_of_mem x hy)

theorem stepN_xor (a b : Nat) : stepN (a ^^^ b) = stepN a ^^^ stepN b := by
  unfold stepN
  have h1 : (a ^^^ b) / 2 = a / 2 ^^^ b / 2 := Nat.xor_div_two
  have h2 : (a ^^^ b) % 2 = 1 ↔ ¬ (a % 2 = 1 ↔ b % 2 = 1) := Nat.xor_mod_two_eq_one
  rw [h1]
  by_cases ha : a % 2 = 1 <;> by_cases hb : b % 2 = 1
  · rw [if_neg (by rw [h2]; simp [ha, hb]), if_pos ha, if_pos hb, Nat.xor_assoc, Nat.xor_comm (b / 2), ← Nat.xor_assoc 3988292384, Nat.xor_self, Nat.zero_xor]
  · rw [if_pos (by rw [h2]; simp [ha, hb]), if_pos ha, if_neg hb, Nat.xor_assoc, Nat.xor_comm (b / 2), ← Nat.xor_assoc]
  · rw [if_pos (by rw [h2]; simp [ha, hb]), if_neg ha, if_pos hb, Nat.xor_assoc]
  · rw [if_neg (by rw [h2]; simp [ha, hb]), if_neg ha, if_neg hb]
theorem iterN_xor : ∀ (k a b : Nat), iterN k (a ^^^ b) = iterN k a ^^^ iterN k b
  | 0, a, b => rfl
  | k + 1, a, b => by simp only [iterN, stepN_xor, iterN_xor k]
theorem byteN_xor (a b u v : Nat) : byteN (a ^^^ b) (u ^^^ v) = byteN a u ^^^ byteN b v := by
  unfold byteN
  rw [← iterN_xor]
  congr 1
  rw [Nat.xor_assoc, Nat.xor_assoc, ← Nat.xor_assoc b u v, Nat.xor_comm b u, Nat.xor_assoc u b v]
theorem crcF_xor : ∀ (l m : List Nat) (a b : Nat), l.length = m.length → crcF (a ^^^ b) (List.zipWith (· ^^^ ·) l m) = crcF a l ^^^ crcF b m
  | [], [], a, b, _ => rfl
  | x :: l, y :: m, a, b, h => by
    simp only [crcF, List.zipWith_cons_cons, List.foldl_cons, byteN_xor]
    exact crcF_xor l m _ _ (by simpa using h)
  | [], y :: m, a, b, h => by simp at h
  | x :: l, [], a, b, h => by simp at h

/-! ### The loops -/
def castL (l : List Nat) : List Int := l.map fun n : Nat => (n : Int)
theorem castL_len (l : List Nat) : (castL l).length = l.length := by simp [castL]
theorem castL_get {l : List Nat} {i : Nat} (h : i < l.length) : (castL l)[i]'(by rw [castL_len]; exact h) = (l[i] : Int) := by simp [castL]
theorem cast_of {l : List Int} (h : ∀ x ∈ l, 0 ≤ x ∧ x < 256) : ∃ m : List Nat, l = castL m ∧ ∀ x ∈ m, x < 256 := by
  refine ⟨l.map Int.toNat, ?_, ?_⟩
  · unfold castL
    rw [List.map_map]
    conv => lhs; rw [← List.map_id l]
    apply List.map_congr_left
    intro x hx
    have := h x hx
    simp only [Function.comp, id]
    omega
  · intro x hx
    obtain ⟨y, hy, rfl⟩ := List.mem_map.1 hx
    have := h y hy
    omega
theorem castL_app (l m : List Nat) : castL (l ++ m) = castL l ++ castL m := by simp [castL]
theorem castL_inj {l m : List Nat} : castL l = castL m ↔ l = m := by
  constructor
  · intro h
    have h1 : (castL l).map Int.toNat = (castL m).map Int.toNat := by rw [h]
    have h2 : ∀ l : List Nat, (castL l).map Int.toNat = l := fun l => by
      unfold castL
      rw [List.map_map]
      conv => rhs; rw [← List.map_id l]
      apply List.map_congr_left
      intro x _
      simp
    rw [h2, h2] at h1
    exact h1
  · rintro rfl
    rfl
theorem b2sO_cast {l : List Nat} (h : ∀ x ∈ l, x < 256) : b2sO (castL l) = some (castL l) := by
  unfold b2sO
  rw [if_pos]
  rw [List.all_eq_true]
  intro x hx
  obtain ⟨y, hy, rfl⟩ := List.mem_map.1 hx
  have := h y hy
  simp
  omega

theorem iterN_succ : ∀ (k n : Nat), iterN (k + 1) n = stepN (iterN k n)
  | 0, n => rfl
  | k + 1, n => by
    show iterN (k + 1) (stepN n) = stepN (iterN k (stepN n))
    exact iterN_succ k (stepN n)
theorem frame_bits (n : Nat) (hn : n < 4294967296) : loopD frame_Sum_L1 ((n : Int), (0 : Int)) = some (iterN 8 n : Int) := by
  have lp := loop_good (f := frame_Sum_L1) (n := 8) (e := (iterN 8 n : Int)) (fun i => ((iterN i n : Int), (i : Int))) (fun i hi => by
    have hlt : (i : Int) < 8 := by omega
    have hl := iterN_lt i hn
    have hs : shrO .u32 (iterN i n : Int) (1 : Int) = some ((iterN i n / 2 : Nat) : Int) := shr_is _ 1 (by omega)
    have hv : (bif decide (((iterN i n % 2 : Nat) : Int) = (1 : Int)) then bXor .u32 ((iterN i n / 2 : Nat) : Int) (3988292384 : Int) else ((iterN i n / 2 : Nat) : Int)) = (iterN (i + 1) n : Int) := by
      have hx : bXor .u32 ((iterN i n / 2 : Nat) : Int) (3988292384 : Int) = ((iterN i n / 2 ^^^ 3988292384 : Nat) : Int) := xor_is _ 3988292384 (by omega) (by omega)
      rw [iterN_succ, hx]
      unfold stepN
      by_cases h : iterN i n % 2 = 1
      · rw [if_pos h, h]; rfl
      · rw [if_neg h, decide_eq_false (by omega)]; rfl
    unfold frame_Sum_L1
    simp only [hlt, decide_true, if_true, hs, Option.bind_some, and1_is _ hl, hv, w64_succ (show i < 4611686018427387904 by omega)]) (by
    unfold frame_Sum_L1
    simp)
  exact lp
theorem crcF_take {l : List Nat} {n i : Nat} (h : i < l.length) : crcF n (l.take (i + 1)) = byteN (crcF n (l.take i)) l[i] := by
  unfold crcF
  rw [take_succ_get h, List.foldl_append]
  rfl
theorem wu32_nat {i : Nat} (h : i < 4294967296) : wu32 (i : Int) = i := wu32_id (by omega) (by omega)
theorem frame_Sum_eq (l : List Nat) (hl : l.length ≤ 100000) (hb : ∀ x ∈ l, x < 256) : frame_Sum (castL l) = some (crcN l : Int) := by
  unfold frame_Sum
  have hpl : ∀ i, crcF 4294967295 (l.take i) < 4294967296 := fun i => crcF_lt _ (by omega) fun x hx => hb x (List.mem_of_mem_take hx)
  have lp := loop_good (f := frame_Sum_L2 (castL l) (List.length (castL l) : Int)) (n := l.length) (e := (crcF 4294967295 l : Int)) (fun i => ((crcF 4294967295 (l.take i) : Int), (i : Int))) (fun i hi => by
    have hlt : (i : Int) < (List.length (castL l) : Int) := by rw [castL_len]; omega
    have hg : getO (castL l) (i : Int) = some (l[i] : Int) := by rw [getO_in (by rw [castL_len]; exact hi), castL_get hi]
    have hbi := hb l[i] (List.getElem_mem hi)
    unfold frame_Sum_L2
    simp only [hlt, decide_true, if_true, hg, Option.bind_some, wu32_nat (show l[i] < 4294967296 by omega), xor_is _ _ (hpl i) (show l[i] < 4294967296 by omega), frame_bits _ (xor_lt _ _ (hpl i) (show l[i] < 4294967296 by omega)), w64_succ (show i < 4611686018427387904 by omega), crcF_take hi]
    rfl) (by
    unfold frame_Sum_L2
    have : ¬ (l.length : Int) < (List.length (castL l) : Int) := by rw [castL_len]; omega
    simp only [this, decide_false, Bool.false_eq_true, if_false, List.take_length])
  rw [show (crcF 4294967295 (l.take 0) : Int) = 4294967295 from rfl, show (((0 : Nat) : Int)) = 0 from rfl] at lp
  have h2 := crcF_lt l (n := 4294967295) (by omega) hb
  simp only [lp, Option.bind_some, not_is _ h2]
  rfl
theorem crcN_lt {l : List Nat} : crcN l < 4294967296 := by unfold crcN; omega

/-! ### Words and bytes -/
def bytesN (n : Nat) : List Nat := [n / 16777216, n / 65536 % 256, n / 256 % 256, n % 256]
def ofN (a b c d : Nat) : Nat := ((a * 256 + b) * 256 + c) * 256 + d
theorem wu8_nat (n : Nat) : wu8 (n : Int) = ((n % 256 : Nat) : Int) := by
  show IntKind.wrap .u8 (n : Int) = _
  simp [IntKind.wrap, IntKind.bits, IntKind.signed]
theorem word_Bytes_eq (n : Nat) (hn : n < 4294967296) : word_Bytes (n : Int) = some (castL (bytesN n)) := by
  unfold word_Bytes
  have h1 : shrO .u32 (n : Int) (24 : Int) = some ((n / 16777216 : Nat) : Int) := shr_is n 24 (by omega)
  have h2 : shrO .u32 (n : Int) (16 : Int) = some ((n / 65536 : Nat) : Int) := shr_is n 16 (by omega)
  have h3 : shrO .u32 (n : Int) (8 : Int) = some ((n / 256 : Nat) : Int) := shr_is n 8 (by omega)
  have h4 : n / 16777216 % 256 = n / 16777216 := by omega
  simp only [h1, h2, h3, Option.bind_some, wu8_nat, h4]
  rfl
theorem bytesN_lt {n : Nat} (hn : n < 4294967296) : ∀ x ∈ bytesN n, x < 256 := by
  intro x hx
  simp only [bytesN, List.mem_cons, List.not_mem_nil, or_false] at hx
  omega
theorem bytesN_of {a b c d : Nat} (ha : a < 256) (hb : b < 256) (hc : c < 256) (hd : d < 256) : bytesN (ofN a b c d) = [a, b, c, d] := by
  unfold bytesN ofN
  congr 1
  · omega
  congr 1
  · omega
  congr 1
  · omega
  congr 1
  omega
theorem ofN_bytes {n : Nat} (hn : n < 4294967296) : ofN (n / 16777216) (n / 65536 % 256) (n / 256 % 256) (n % 256) = n := by
  unfold ofN
  omega
theorem ofN_lt {a b c d : Nat} (ha : a < 256) (hb : b < 256) (hc : c < 256) (hd : d < 256) : ofN a b c d < 4294967296 := by unfold ofN; omega

theorem or_low (x y : Nat) (hy : y < 256) : x * 256 ||| y = x * 256 + y := by
  have := Nat.two_pow_add_eq_or_of_lt (i := 8) (b := y) (by simpa using hy) x
  simp only [Nat.reducePow] at this
  rw [Nat.mul_comm, this]
theorem shl_or {x y : Nat} (hx : x < 16777216) (hy : y < 256) : shlO .u32 (x : Int) (8 : Int) = some ((x * 256 : Nat) : Int) ∧ bOr .u32 ((x * 256 : Nat) : Int) (wu32 (y : Int)) = ((x * 256 + y : Nat) : Int) := by
  constructor
  · unfold shlO
    rw [if_neg (by omega)]
    congr 1
    have : (2 : Int) ^ (min (8 : Int).toNat (IntKind.bits .u32)) = 256 := by decide
    rw [this]
    have h2 : (x : Int) * 256 = ((x * 256 : Nat) : Int) := by omega
    rw [h2]
    exact wu32_id (by omega) (by omega)
  · rw [wu32_nat (by omega), or_is _ _ (by omega) (by omega), or_low _ _ hy]
theorem word_Of_eq (a b c d : Nat) (l : List Int) (ha : a < 256) (hb : b < 256) (hc : c < 256) (hd : d < 256) : word_Of ((a : Int) :: (b : Int) :: (c : Int) :: (d : Int) :: l) = some (ofN a b c d : Int) := by
  unfold word_Of
  have hcp : cpyT ([(0 : Int), (0 : Int), (0 : Int), (0 : Int)] : List Int) ((a : Int) :: (b : Int) :: (c : Int) :: (d : Int) :: l) = [(a : Int), (b : Int), (c : Int), (d : Int)] := by
    unfold cpyT
    simp
  have st : ∀ (i v y : Nat), i < 4 → getO [(a : Int), (b : Int), (c : Int), (d : Int)] (i : Int) = some (y : Int) → v < 16777216 → y < 256 → word_Of_L1 [(a : Int), (b : Int), (c : Int), (d : Int)] ((v : Int), (i : Int)) = some (.inl (((v * 256 + y : Nat) : Int), ((i + 1 : Nat) : Int))) := fun i v y hi hg hv hy => by
    have hlt : (i : Int) < 4 := by omega
    obtain ⟨e1, e2⟩ := shl_or hv hy
    unfold word_Of_L1
    simp only [hlt, decide_true, if_true, hg, Option.bind_some, e1, e2, w64_succ (show i < 4611686018427387904 by omega)]
  have s0 := st 0 0 a (by omega) rfl (by omega) ha
  have s1 := st 1 (0 * 256 + a) b (by omega) rfl (by omega) hb
  have s2 := st 2 ((0 * 256 + a) * 256 + b) c (by omega) rfl (by omega) hc
  have s3 := st 3 (((0 * 256 + a) * 256 + b) * 256 + c) d (by omega) rfl (by omega) hd
  have s4 : ∀ v : Int, word_Of_L1 [(a : Int), (b : Int), (c : Int), (d : Int)] (v, ((3 + 1 : Nat) : Int)) = some (.inr v) := fun v => by
    unfold word_Of_L1
    simp
  simp only [hcp]
  have h0 : loopD (word_Of_L1 [(a : Int), (b : Int), (c : Int), (d : Int)]) ((0 : Int), (0 : Int)) = some ((ofN a b c d : Nat) : Int) := by
    refine (loop_next s0).trans ((loop_next s1).trans ((loop_next s2).trans ((loop_next s3).trans ?_)))
    rw [loop_out (s4 _)]
    unfold ofN
    rw [Nat.zero_mul, Nat.zero_add]
  rw [h0]
  rfl
end Go.Proofs.Ytihchahfnhoapaa
