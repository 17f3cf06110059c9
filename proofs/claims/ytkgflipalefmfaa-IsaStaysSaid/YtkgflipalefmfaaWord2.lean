/- The words of layer 1: the operations, and the document's. -/
import Derived.Test.YtkgflipalefmfaaWord
namespace Go.Proofs.Ytkgflipalefmfaa
open Go.SX

theorem wrapS64 {n : Int} (h1 : -9223372036854775808 ≤ n) (h2 : n ≤ 9223372036854775807) : IntKind.wrap .i64 n = n := by
  simp only [IntKind.wrap, IntKind.signed, IntKind.bits]
  simp
  split <;> omega

theorem loop_on {b : Tree} {E vs vs' : List D} (h : EV b (E ++ vs) = some (.jmp 0 true vs')) : loopL cx 12 noC b E vs = loopL cx 12 noC b E vs' := by
  rw [loopL_eq]
  rw [show evL cx 12 noC b (E ++ vs) = _ from h]
  rfl
theorem loop_off {b : Tree} {E vs : List D} {l : Nat} {k : Bool} {ws : List D} (h : EV b (E ++ vs) = some (.jmp l k ws)) (hk : (l = 0 ∧ k = true) → False) : loopL cx 12 noC b E vs = some (.jmp l k ws) := by
  rw [loopL_eq]
  rw [show evL cx 12 noC b (E ++ vs) = _ from h]
  split
  · rename_i vs' e
    injection e with e
    injection e with e1 e2
    exact absurd ⟨e1, e2⟩ hk
  · rfl

def bitIs (same : Bool) (p q : Int) : Bool := (same && (p.tmod 2 == 1) && (q.tmod 2 == 1)) || (!same && ((p.tmod 2 == 1) != (q.tmod 2 == 1)))

theorem bits_step (x0 y0 : D) (same : Bool) (p q n w i : Int) (hi : i < 32) (h0 : 0 ≤ i) : EV T28L1 [x0, y0, .bool same, .int .u32 p, .int .u32 q, .int .u32 n, .int .u32 w, .int .i64 i] =
    some (.jmp 0 true [.int .u32 (u32 (p.tdiv 2)), .int .u32 (u32 (q.tdiv 2)), .int .u32 (if bitIs same p q then u32 (n + w) else n), .int .u32 (u32 (w * 2)), .int .i64 (i + 1)]) := by
  have e : IntKind.wrap .i64 (i + 1) = i + 1 := wrapS64 (by omega) (by omega)
  unfold bitIs
  cases same <;> cases hp : (p.tmod 2 == 1) <;> cases hq : (q.tmod 2 == 1) <;>
    simp [T28L1, evL_prim, evL_ite, evL_jmp, evL_sub, gets, At.get, Prim.run, binD, binI, binB, unD, wrap32, hi, hp, hq, e]
theorem bits_end (x0 y0 : D) (same : Bool) (p q n w : Int) : EV T28L1 [x0, y0, .bool same, .int .u32 p, .int .u32 q, .int .u32 n, .int .u32 w, .int .i64 32] =
    some (.jmp 1 false [.int .u32 p, .int .u32 q, .int .u32 n, .int .u32 w, .int .i64 32, .bool false]) := by
  simp [T28L1, evL_prim, evL_ite, evL_jmp, gets, At.get, Prim.run, binD, binI]

theorem bits_loop (x y z : Nat) (hx : x < 4294967296) (hy : y < 4294967296) (x0 y0 : D) (same : Bool) (hz : ∀ i, z.testBit i = ((same && x.testBit i && y.testBit i) || (!same && (x.testBit i != y.testBit i)))) :
    ∀ (r i : Nat), r + i = 32 → ∃ p q w : D, loopL cx 12 noC T28L1 [x0, y0, .bool same] [.int .u32 ((x / 2 ^ i : Nat) : Int), .int .u32 ((y / 2 ^ i : Nat) : Int), .int .u32 ((z % 2 ^ i : Nat) : Int), .int .u32 ((2 ^ i % 4294967296 : Nat) : Int), .int .i64 (i : Int)] =
      some (.jmp 1 false [p, q, .int .u32 ((z % 4294967296 : Nat) : Int), w, .int .i64 32, .bool false])
  | 0, i, h => by
    have : i = 32 := by omega
    subst this
    exact ⟨_, _, _, loop_off (E := [x0, y0, .bool same]) (vs := [_, _, _, _, _]) (bits_end _ _ _ _ _ _ _) (by simp)⟩
  | r + 1, i, h => by
    have hi : i < 32 := by omega
    obtain ⟨p, q, w, ih⟩ := bits_loop x y z hx hy x0 y0 same hz r (i + 1) (by omega)
    refine ⟨p, q, w, ?_⟩
    rw [loop_on (E := [x0, y0, .bool same]) (vs := [_, _, _, _, _]) (bits_step _ _ _ _ _ _ _ _ (by omega) (by omega))]
    rw [← ih]
    have hpow : 2 ^ i < 4294967296 := by
      have : 2 ^ i < 2 ^ 32 := Nat.pow_lt_pow_right (by omega) hi
      simpa using this
    have e1 : ∀ a : Nat, a < 4294967296 → u32 (((a / 2 ^ i : Nat) : Int).tdiv 2) = ((a / 2 ^ (i + 1) : Nat) : Int) := fun a ha => by
      have : ((a / 2 ^ i : Nat) : Int).tdiv 2 = ((a / 2 ^ i / 2 : Nat) : Int) := rfl
      have hh : a / 2 ^ i / 2 = a / 2 ^ (i + 1) := by rw [Nat.div_div_eq_div_mul]; rfl
      have hle : a / 2 ^ (i + 1) ≤ a := Nat.div_le_self _ _
      rw [this, hh]
      generalize a / 2 ^ (i + 1) = t at hle ⊢
      unfold u32
      omega
    have e2 : u32 (((2 ^ i % 4294967296 : Nat) : Int) * 2) = ((2 ^ (i + 1) % 4294967296 : Nat) : Int) := by
      rw [Nat.pow_succ]
      unfold u32
      omega
    have e3 : ∀ a : Nat, (((a / 2 ^ i : Nat) : Int).tmod 2 == 1) = a.testBit i := fun a => by
      have : ((a / 2 ^ i : Nat) : Int).tmod 2 = ((a / 2 ^ i % 2 : Nat) : Int) := rfl
      rw [this, Nat.testBit_eq_decide_div_mod_eq]
      by_cases h : a / 2 ^ i % 2 = 1
      · simp [h]
      · have : a / 2 ^ i % 2 = 0 := by omega
        simp [this]
    have e4 : bitIs same ((x / 2 ^ i : Nat) : Int) ((y / 2 ^ i : Nat) : Int) = z.testBit i := by
      unfold bitIs
      rw [e3, e3, hz]
    have e5 : (if z.testBit i then u32 (((z % 2 ^ i : Nat) : Int) + ((2 ^ i % 4294967296 : Nat) : Int)) else ((z % 2 ^ i : Nat) : Int)) = ((z % 2 ^ (i + 1) : Nat) : Int) := by
      rw [Nat.mod_pow_succ]
      rw [Nat.testBit_eq_decide_div_mod_eq]
      have hlt : z % 2 ^ i < 2 ^ i := Nat.mod_lt _ (Nat.pow_pos (by omega))
      by_cases h : z / 2 ^ i % 2 = 1
      · have hp2 : 2 ^ (i + 1) ≤ 2 ^ 32 := Nat.pow_le_pow_right (by omega) (by omega)
        rw [Nat.pow_succ] at hp2
        simp only [h, decide_true, if_true, Nat.mul_one]
        unfold u32
        omega
      · have : z / 2 ^ i % 2 = 0 := by omega
        simp [this]
    rw [e1 x hx, e1 y hy, e2, e4, e5]
    rfl

theorem bits_is (x y z : Nat) (hx : x < 4294967296) (hy : y < 4294967296) (same : Bool) (hz : ∀ i, z.testBit i = ((same && x.testBit i && y.testBit i) || (!same && (x.testBit i != y.testBit i)))) :
    CA 28 [.int .u32 x, .int .u32 y, .bool same] = some [.int .u32 ((z % 4294967296 : Nat) : Int)] := by
  rw [call_of t28]
  obtain ⟨p, q, w, h⟩ := bits_loop x y z hx hy (.int .u32 x) (.int .u32 y) same hz 32 0 rfl
  simp only [Nat.pow_zero, Nat.div_one, Nat.mod_one] at h
  have h : loopL cx 12 noC T28L1 [.int .u32 x, .int .u32 y, .bool same] [.int .u32 x, .int .u32 y, .int .u32 0, .int .u32 1, .int .i64 0] = _ := h
  simp [T28, evL_sub, evL_loop, gets, At.get, h, Res.up, evL_jmp]

end Go.Proofs.Ytkgflipalefmfaa
