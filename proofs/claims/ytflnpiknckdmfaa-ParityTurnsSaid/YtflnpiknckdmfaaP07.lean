/- Layer 7: words put together by bits, columns of banks. No program in sight. -/
import Derived.Test.YtflnpiknckdmfaaPG
set_option linter.unusedSimpArgs false
set_option linter.unusedVariables false
namespace Go.Proofs.Ytflnpiknckdmfaa
open Go.SX

/-! ### Words -/
def wd (x : Int) : Prop := 0 ≤ x ∧ x < 4294967296
noncomputable def xo (a b : Int) : Int := bXor .u32 a b
theorem xo_is (x y : Nat) (hx : x < 4294967296) (hy : y < 4294967296) : xo (x : Int) (y : Int) = ((x ^^^ y : Nat) : Int) := by
  unfold xo bXor
  rw [show IntKind.bits .u32 = 32 from rfl]
  have h : (BitVec.ofInt 32 (x : Int) ^^^ BitVec.ofInt 32 (y : Int)).toNat = x ^^^ y := by
    rw [show (BitVec.ofInt 32 (x : Int)) = BitVec.ofNat 32 x from by rw [BitVec.ofInt_natCast], show (BitVec.ofInt 32 (y : Int)) = BitVec.ofNat 32 y from by rw [BitVec.ofInt_natCast]]
    rw [BitVec.toNat_xor, BitVec.toNat_ofNat, BitVec.toNat_ofNat, Nat.mod_eq_of_lt (by simpa using hx), Nat.mod_eq_of_lt (by simpa using hy)]
  have hl : x ^^^ y < 4294967296 := Nat.xor_lt_two_pow (n := 32) (by simpa using hx) (by simpa using hy)
  rw [h]
  unfold IntKind.wrap
  simp only [IntKind.signed, IntKind.bits, Bool.false_and, Bool.false_eq_true, if_false]
  omega
theorem wd_nat {x : Int} (h : wd x) : ∃ n : Nat, x = (n : Int) ∧ n < 4294967296 := ⟨x.toNat, by have := h.1; omega, by have := h.1; have := h.2; omega⟩
theorem xo_wd {a b : Int} (ha : wd a) (hb : wd b) : wd (xo a b) := by
  obtain ⟨x, rfl, hx⟩ := wd_nat ha
  obtain ⟨y, rfl, hy⟩ := wd_nat hb
  rw [xo_is x y hx hy]
  have hl : x ^^^ y < 4294967296 := Nat.xor_lt_two_pow (n := 32) (by simpa using hx) (by simpa using hy)
  generalize x ^^^ y = z at hl
  exact ⟨by omega, by omega⟩
theorem xo_comm {a b : Int} (ha : wd a) (hb : wd b) : xo a b = xo b a := by
  obtain ⟨x, rfl, hx⟩ := wd_nat ha
  obtain ⟨y, rfl, hy⟩ := wd_nat hb
  rw [xo_is x y hx hy, xo_is y x hy hx, Nat.xor_comm]
theorem xo_assoc {a b c : Int} (ha : wd a) (hb : wd b) (hc : wd c) : xo (xo a b) c = xo a (xo b c) := by
  obtain ⟨x, rfl, hx⟩ := wd_nat ha
  obtain ⟨y, rfl, hy⟩ := wd_nat hb
  obtain ⟨z, rfl, hz⟩ := wd_nat hc
  have h1 : x ^^^ y < 4294967296 := Nat.xor_lt_two_pow (n := 32) (by simpa using hx) (by simpa using hy)
  have h2 : y ^^^ z < 4294967296 := Nat.xor_lt_two_pow (n := 32) (by simpa using hy) (by simpa using hz)
  rw [xo_is x y hx hy, xo_is y z hy hz, xo_is _ z h1 hz, xo_is x _ hx h2, Nat.xor_assoc]
theorem xo_self {a : Int} (ha : wd a) : xo a a = 0 := by
  obtain ⟨x, rfl, hx⟩ := wd_nat ha
  rw [xo_is x x hx hx, Nat.xor_self]
  rfl
theorem xo_zero {a : Int} (ha : wd a) : xo a 0 = a := by
  obtain ⟨x, rfl, hx⟩ := wd_nat ha
  have := xo_is x 0 hx (by omega)
  rw [Nat.xor_zero] at this
  exact this
theorem zero_xo {a : Int} (ha : wd a) : xo 0 a = a := by rw [xo_comm ⟨by omega, by omega⟩ ha, xo_zero ha]
theorem wd0 : wd 0 := ⟨by omega, by omega⟩
/-- What is put twice goes away. -/
theorem xo_back {a b : Int} (ha : wd a) (hb : wd b) : xo (xo a b) b = a := by rw [xo_assoc ha hb hb, xo_self hb, xo_zero ha]

/-! ### Columns -/
def rowAt (rows : List (List Int)) (i : Nat) : List Int := (rows[i]?).getD []
def wordAt (r : List Int) (at_ : Nat) : Int := (r[at_]?).getD 0
def cell (rows : List (List Int)) (i at_ : Nat) : Int := wordAt (rowAt rows i) at_
def rowsWd (rows : List (List Int)) : Prop := ∀ r ∈ rows, ∀ x ∈ r, wd x
theorem rowAt_in {rows : List (List Int)} {i : Nat} (h : i < rows.length) : rowAt rows i = rows[i] := by unfold rowAt; rw [List.getElem?_eq_getElem h]; rfl
theorem wordAt_in {r : List Int} {i : Nat} (h : i < r.length) : wordAt r i = r[i] := by unfold wordAt; rw [List.getElem?_eq_getElem h]; rfl
theorem rowAt_mem {rows : List (List Int)} {i : Nat} (h : i < rows.length) : rowAt rows i ∈ rows := by rw [rowAt_in h]; exact List.getElem_mem h
theorem wordAt_wd {r : List Int} (h : ∀ x ∈ r, wd x) (i : Nat) : wd (wordAt r i) := by
  unfold wordAt
  cases e : r[i]? with
  | none => exact wd0
  | some x => exact h x (List.mem_of_getElem? e)
theorem cell_wd {rows : List (List Int)} (h : rowsWd rows) (i a : Nat) : wd (cell rows i a) := by
  unfold cell rowAt
  refine wordAt_wd ?_ a
  cases e : rows[i]? with
  | none => intro x hx; cases hx
  | some r => exact h r (List.mem_of_getElem? e)
theorem rowAt_set_ne {rows : List (List Int)} {k i : Nat} (h : k ≠ i) (r : List Int) : rowAt (rows.set k r) i = rowAt rows i := by unfold rowAt; rw [List.getElem?_set_ne h]
theorem rowAt_set {rows : List (List Int)} {k : Nat} (h : k < rows.length) (r : List Int) : rowAt (rows.set k r) k = r := by unfold rowAt; rw [List.getElem?_set_self h]; rfl
theorem wordAt_set_ne {r : List Int} {k i : Nat} (h : k ≠ i) (x : Int) : wordAt (r.set k x) i = wordAt r i := by unfold wordAt; rw [List.getElem?_set_ne h]
theorem wordAt_set {r : List Int} {k : Nat} (h : k < r.length) (x : Int) : wordAt (r.set k x) k = x := by unfold wordAt; rw [List.getElem?_set_self h]; rfl
theorem rowsWd_set {rows : List (List Int)} (h : rowsWd rows) {k : Nat} {r : List Int} (hr : ∀ x ∈ r, wd x) : rowsWd (rows.set k r) := by
  intro q hq
  rcases List.mem_or_eq_of_mem_set hq with q1 | q1
  · exact h q q1
  · rw [q1]; exact hr
theorem wds_set {r : List Int} (h : ∀ x ∈ r, wd x) {k : Nat} {v : Int} (hv : wd v) : ∀ x ∈ r.set k v, wd x := by
  intro x hx
  rcases List.mem_or_eq_of_mem_set hx with q1 | q1
  · exact h x q1
  · rw [q1]; exact hv

/-- The first n rows' words, but one's. -/
noncomputable def colTo (rows : List (List Int)) (a : Nat) (but : Int) : Nat → Int
  | 0 => 0
  | i + 1 => if (i : Int) = but then colTo rows a but i else xo (colTo rows a but i) (cell rows i a)
theorem colTo_wd {rows : List (List Int)} (h : rowsWd rows) (a : Nat) (but : Int) : ∀ n, wd (colTo rows a but n)
  | 0 => wd0
  | n + 1 => by
    unfold colTo
    split
    · exact colTo_wd h a but n
    · exact xo_wd (colTo_wd h a but n) (cell_wd h n a)
theorem colTo_congr {rows rows' : List (List Int)} {a : Nat} {but : Int} : ∀ (n : Nat), (∀ (i : Nat), i < n → (i : Int) ≠ but → cell rows' i a = cell rows i a) → colTo rows' a but n = colTo rows a but n
  | 0, _ => rfl
  | n + 1, h => by
    unfold colTo
    rw [colTo_congr n fun i hi => h i (by omega)]
    split
    · rfl
    · rw [h n (by omega) (by assumption)]
/-- One row is taken out. -/
theorem colTo_out {rows : List (List Int)} (h : rowsWd rows) {a k : Nat} : ∀ n, colTo rows a (-1) n = if k < n then xo (colTo rows a (k : Int) n) (cell rows k a) else colTo rows a (k : Int) n
  | 0 => rfl
  | n + 1 => by
    have ih := colTo_out h (a := a) (k := k) n
    have c1 : ¬ ((n : Int) = -1) := by omega
    have e1 : colTo rows a (-1) (n + 1) = xo (colTo rows a (-1) n) (cell rows n a) := by rw [colTo, if_neg c1]
    rw [e1, ih]
    by_cases hk : n = k
    · subst hk
      rw [if_neg (by omega), if_pos (by omega)]
      have e2 : colTo rows a (n : Int) (n + 1) = colTo rows a (n : Int) n := by rw [colTo, if_pos rfl]
      rw [e2]
    · have c2 : ¬ ((n : Int) = (k : Int)) := by omega
      have e2 : colTo rows a (k : Int) (n + 1) = xo (colTo rows a (k : Int) n) (cell rows n a) := by rw [colTo, if_neg c2]
      rw [e2]
      have w1 := colTo_wd h a (k : Int) n
      have w2 := cell_wd h n a
      have w3 := cell_wd h k a
      by_cases hlt : k < n
      · rw [if_pos hlt, if_pos (by omega), xo_assoc w1 w3 w2, xo_comm w3 w2, xo_assoc w1 w2 w3]
      · rw [if_neg hlt, if_neg (by omega)]
theorem colTo_split {rows : List (List Int)} (h : rowsWd rows) {a k n : Nat} (hk : k < n) : colTo rows a (-1) n = xo (colTo rows a (k : Int) n) (cell rows k a) := by rw [colTo_out h (k := k), if_pos hk]
theorem colTo_set {rows : List (List Int)} (h : rowsWd rows) {a k : Nat} {r : List Int} (hr : ∀ x ∈ r, wd x) {n : Nat} (hk : k < n) (hl : k < rows.length) : colTo (rows.set k r) a (-1) n = xo (colTo rows a (k : Int) n) (wordAt r a) := by
  rw [colTo_split (rowsWd_set h hr) hk]
  congr 1
  · refine colTo_congr n fun i hi hne => ?_
    unfold cell
    rw [rowAt_set_ne (by omega)]
  · unfold cell
    rw [rowAt_set hl]
/-- Whole columns. -/
noncomputable def tog (rows : List (List Int)) (words : Nat) : List Int := (List.range words).map fun a => colTo rows a (-1) rows.length

end Go.Proofs.Ytflnpiknckdmfaa
