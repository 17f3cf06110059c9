/- The words of layer 1: places, bytes, and the laws. -/
import Derived.Test.YtkgflipalefmfaaWord3
namespace Go.Proofs.Ytkgflipalefmfaa
open Go.SX

theorem place_is (x : Nat) (hx : x < 4294967296) (w : Int) (hw : w ≤ 9223372036854775807) : CA 13 [.int .u32 x, .int .i64 w] = some [.int .i64 (if w < 1 then 0 else (x : Int) % w)] := by
  rw [call_of t13]
  have ex : IntKind.wrap .u64 (x : Int) = x := wrap64' _ (by omega) (by omega)
  by_cases h : w < 1
  · simp [T13, evL_prim, evL_ite, evL_jmp, gets, At.get, Prim.run, binD, binI, h]
  · have ew : IntKind.wrap .u64 w = w := wrap64' _ (by omega) (by omega)
    have hne : w ≠ 0 := by omega
    have e1 : (x : Int).tmod w = x % w := Int.tmod_eq_emod_of_nonneg (by omega)
    have h1 : 0 ≤ (x : Int) % w := Int.emod_nonneg _ hne
    have h2 : (x : Int) % w ≤ x := by
      obtain ⟨n, rfl⟩ : ∃ n : Nat, w = n := ⟨w.toNat, by omega⟩
      have := Nat.mod_le x n
      omega
    have e2 : IntKind.wrap .i64 ((x : Int) % w) = x % w := wrapS64 (by omega) (by omega)
    simp [T13, evL_prim, evL_ite, evL_jmp, gets, At.get, Prim.run, binD, binI, h, ex, ew, hne, e1, e2]

def byteL (x : Nat) : List D := [.int .u8 ((x / 16777216 % 256 : Nat) : Int), .int .u8 ((x / 65536 % 256 : Nat) : Int), .int .u8 ((x / 256 % 256 : Nat) : Int), .int .u8 ((x % 256 : Nat) : Int)]
theorem bytes_is (x : Nat) : CA 14 [.int .u32 x] = some [.sl (byteL x)] := by
  rw [call_of t14]
  have e : ∀ k : Nat, (x : Int).fdiv (k : Int) = ((x / k : Nat) : Int) := fun k => by rw [Int.fdiv_eq_ediv_of_nonneg _ (by omega)]; rfl
  have e1 : (x : Int).fdiv 16777216 = ((x / 16777216 : Nat) : Int) := e 16777216
  have e2 : (x : Int).fdiv 65536 = ((x / 65536 : Nat) : Int) := e 65536
  have e3 : (x : Int).fdiv 256 = ((x / 256 : Nat) : Int) := e 256
  simp [T14, evL_prim, evL_jmp, gets, At.get, Prim.run, binD, shI, wrap8, byteL, IntKind.bits, e1, e2, e3]
theorem refbytes_is (x : Nat) (hx : x < 4294967296) : CA 15 [.int .u32 x] = some [.sl (byteL x)] := by
  rw [call_of t15]
  have e1 : u32 ((x : Int) / 16777216) = (x : Int) / 16777216 := u32_id (by omega) (by omega)
  have e2 : u32 ((x : Int) / 65536) = (x : Int) / 65536 := u32_id (by omega) (by omega)
  have e3 : u32 ((x : Int) / 256) = (x : Int) / 256 := u32_id (by omega) (by omega)
  have m0 : (x : Int).tmod 256 = (x : Int) % 256 := Int.tmod_eq_emod_of_nonneg (by omega)
  have m2 : ((x : Int) / 65536).tmod 256 = (x : Int) / 65536 % 256 := Int.tmod_eq_emod_of_nonneg (by omega)
  have m3 : ((x : Int) / 256).tmod 256 = (x : Int) / 256 % 256 := Int.tmod_eq_emod_of_nonneg (by omega)
  simp [T15, evL_prim, evL_jmp, gets, At.get, Prim.run, binD, binI, wrap8, wrap32, byteL, e1, e2, e3, m2, m3, m0]

/-! ### Of -/
def bytesD (bs : List Nat) : List D := bs.map fun (b : Nat) => .int .u8 (b : Int)
def at0 (bs : List Nat) (i : Nat) : Nat := (bs[i]?).getD 0
def ofN (bs : List Nat) : Nat := ((at0 bs 0 * 256 + at0 bs 1) * 256 + at0 bs 2) * 256 + at0 bs 3

theorem or_add (m c : Nat) (hc : c < 256) : m * 256 ||| c = m * 256 + c := by
  have := Nat.shiftLeft_add_eq_or_of_lt (i := 8) (b := c) (by simpa using hc) m
  rw [Nat.shiftLeft_eq] at this
  exact this.symm

theorem orw (m c : Nat) (hm : m < 16777216) (hc : c < 256) : IntKind.wrap .u32 ((BitVec.ofInt (IntKind.bits .u32) ((m : Int) * 256) ||| BitVec.ofInt (IntKind.bits .u32) (c : Int)).toNat) = ((m * 256 + c : Nat) : Int) := by
  have h : (BitVec.ofInt (IntKind.bits .u32) ((m : Int) * 256) ||| BitVec.ofInt (IntKind.bits .u32) (c : Int)).toNat = m * 256 + c := by
    have e1 : BitVec.ofInt (IntKind.bits .u32) ((m : Int) * 256) = BitVec.ofNat 32 (m * 256) := BitVec.ofInt_natCast 32 (m * 256)
    have e2 : BitVec.ofInt (IntKind.bits .u32) (c : Int) = BitVec.ofNat 32 c := BitVec.ofInt_natCast 32 c
    rw [e1, e2]
    show (BitVec.ofNat 32 (m * 256) ||| BitVec.ofNat 32 c).toNat = _
    rw [BitVec.toNat_or, BitVec.toNat_ofNat, BitVec.toNat_ofNat, Nat.mod_eq_of_lt (by omega), Nat.mod_eq_of_lt (by omega), or_add m c hc]
  rw [h, wrap32, u32_small _ (by omega)]

theorem of_step (v0 : D) (arr : List D) (n c : Nat) (i : Nat) (hi : i < 4) (hn : n < 16777216) (hc : c < 256) (hg : arr[i]? = some (.int .u8 c)) :
    EV T16L1 [v0, .agg arr, .int .u32 n, .int .i64 i] = some (.jmp 0 true [.int .u32 ((n * 256 + c : Nat) : Int), .int .i64 ((i + 1 : Nat) : Int)]) := by
  have e1 : u32 ((n : Int) * 2 ^ min 8 (IntKind.bits .u32)) = (n : Int) * 256 := u32_id (n := (n : Int) * 256) (by omega) (by omega)
  have e2 : u32 (c : Int) = c := u32_small c (by omega)
  have e3 : IntKind.wrap .i64 ((i : Int) + 1) = (i : Int) + 1 := wrapS64 (by omega) (by omega)
  have e4 := orw n c hn hc
  have e5 : ((i : Int) < 4) := by omega
  simp [wrap32] at e4
  simp [T16L1, evL_prim, evL_ite, evL_jmp, gets, At.get, Prim.run, binD, binI, shI, wrap32, e1, e2, e3, e4, e5, hg]

theorem of_end (v0 a n : D) : EV T16L1 [v0, a, n, .int .i64 4] = some (.jmp 1 false [n, .int .i64 4, .bool false]) := by
  simp [T16L1, evL_prim, evL_ite, evL_jmp, gets, At.get, Prim.run, binD, binI]

theorem of_four (v0 : D) (a b c d : Nat) (ha : a < 256) (hb : b < 256) (hc : c < 256) (hd : d < 256) :
    loopL cx 12 noC T16L1 [v0, .agg [.int .u8 a, .int .u8 b, .int .u8 c, .int .u8 d]] [.int .u32 0, .int .i64 0] = some (.jmp 1 false [.int .u32 ((((a * 256 + b) * 256 + c) * 256 + d : Nat) : Int), .int .i64 4, .bool false]) := by
  have h0 := of_step v0 [.int .u8 a, .int .u8 b, .int .u8 c, .int .u8 d] 0 a 0 (by omega) (by omega) ha rfl
  have h1 := of_step v0 [.int .u8 a, .int .u8 b, .int .u8 c, .int .u8 d] (0 * 256 + a) b 1 (by omega) (by omega) hb rfl
  have h2 := of_step v0 [.int .u8 a, .int .u8 b, .int .u8 c, .int .u8 d] ((0 * 256 + a) * 256 + b) c 2 (by omega) (by omega) hc rfl
  have h3 := of_step v0 [.int .u8 a, .int .u8 b, .int .u8 c, .int .u8 d] (((0 * 256 + a) * 256 + b) * 256 + c) d 3 (by omega) (by omega) hd rfl
  refine (loop_on (E := [v0, _]) (vs := [_, _]) h0).trans ((loop_on (E := [v0, _]) (vs := [_, _]) h1).trans ((loop_on (E := [v0, _]) (vs := [_, _]) h2).trans ((loop_on (E := [v0, _]) (vs := [_, _]) h3).trans ?_)))
  rw [Nat.zero_mul, Nat.zero_add]
  exact loop_off (E := [v0, _]) (vs := [_, _]) (of_end _ _ _) (by simp)

theorem els_bytes {d : D} {bs : List Nat} (h : d = .sl (bytesD bs) ∨ (d = .nil ∧ bs = [])) : d.els = some (bytesD bs) := by
  rcases h with h | ⟨h, h'⟩
  · subst h; rfl
  · subst h h'; rfl

theorem of_is (d : D) (bs : List Nat) (h : d = .sl (bytesD bs) ∨ (d = .nil ∧ bs = [])) (hb : ∀ b ∈ bs, b < 256) : CA 16 [d] = some [.int .u32 ((ofN bs : Nat) : Int)] := by
  rw [call_of t16]
  have hels := els_bytes h
  have hz : (0 : Int) = ((0 : Nat) : Int) := rfl
  have main : ∀ a b c e : Nat, a < 256 → b < 256 → c < 256 → e < 256 → (bytesD bs).take 4 ++ [D.int .u8 0, .int .u8 0, .int .u8 0, .int .u8 0].drop (bytesD bs).length = [.int .u8 a, .int .u8 b, .int .u8 c, .int .u8 e] →
      ((a * 256 + b) * 256 + c) * 256 + e = ofN bs → (match EV T16 [d] with | some (.jmp _ _ rs) => some rs | _ => none) = some [.int .u32 ((ofN bs : Nat) : Int)] := by
    intro a b c e ha hb hc he hl ho
    have hloop := of_four d a b c e ha hb hc he
    rw [ho] at hloop
    simp only [T16, EV, evL_prim, gets, At.get, Prim.run, List.getElem?_cons_zero, hels, List.length_cons, List.length_nil, Nat.zero_add, Nat.reduceAdd, hl, evL_sub, evL_loop, List.cons_append, List.nil_append, hloop, Res.up]
    simp [evL_jmp, gets, At.get]
  match bs, hb with
  | [], _ => exact main 0 0 0 0 (by omega) (by omega) (by omega) (by omega) rfl rfl
  | [a], hb => exact main a 0 0 0 (hb a (by simp)) (by omega) (by omega) (by omega) rfl rfl
  | [a, b], hb => exact main a b 0 0 (hb a (by simp)) (hb b (by simp)) (by omega) (by omega) rfl rfl
  | [a, b, c], hb => exact main a b c 0 (hb a (by simp)) (hb b (by simp)) (hb c (by simp)) (by omega) rfl rfl
  | a :: b :: c :: e :: r, hb =>
    refine main a b c e (hb a (by simp)) (hb b (by simp)) (hb c (by simp)) (hb e (by simp)) ?_ rfl
    simp [bytesD]

end Go.Proofs.Ytkgflipalefmfaa
