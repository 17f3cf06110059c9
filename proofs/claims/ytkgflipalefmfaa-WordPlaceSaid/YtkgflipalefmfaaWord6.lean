/- The words of layer 1: the laws WordRound and WordPlace, on data. -/
import Derived.Test.YtkgflipalefmfaaWord5
namespace Go.Proofs.Ytkgflipalefmfaa
open Go.SX

theorem word_round (x y : Nat) (hx : x < 4294967296) (hy : y < 4294967296) : CA 4 [.int .u32 x, .int .u32 y] = some [.bool true] := by
  rw [call_of t4]
  have h1 : CA 11 [.int .i64 2, .int .u32 x, .int .u32 y] = some [.int .u32 (((x + y) % 4294967296 : Nat) : Int), .bool true] := do_is x y hx hy 2
  have h2 : CA 11 [.int .i64 3, .int .u32 (((x + y) % 4294967296 : Nat) : Int), .int .u32 y] = some [.int .u32 x, .bool true] := by
    rw [do_is _ y (Nat.mod_lt _ (by omega)) hy 3]
    have : u32 ((((x + y) % 4294967296 : Nat) : Int) - y) = x := by unfold u32; omega
    simp only [wordAns]
    rw [this]
    rfl
  have h3 : CA 11 [.int .i64 6, .int .u32 x, .int .u32 y] = some [.int .u32 ((x ^^^ y : Nat) : Int), .bool true] := do_is x y hx hy 6
  have h4 : CA 11 [.int .i64 6, .int .u32 ((x ^^^ y : Nat) : Int), .int .u32 y] = some [.int .u32 x, .bool true] := by
    rw [do_is _ y (xor_lt x y hx hy) hy 6]
    have : (x ^^^ y) ^^^ y = x := by rw [Nat.xor_assoc, Nat.xor_self, Nat.xor_zero]
    simp only [wordAns]
    rw [this]
    rfl
  have h5 : CA 11 [.int .i64 7, .int .u32 x, .int .u32 y] = some [.int .u32 (if x = y then 1 else 0), .bool true] := do_is x y hx hy 7
  have h6 : CA 11 [.int .i64 8, .int .u32 x, .int .u32 y] = some [.int .u32 (if x < y then 1 else 0), .bool true] := do_is x y hx hy 8
  have h7 : CA 11 [.int .i64 8, .int .u32 y, .int .u32 x] = some [.int .u32 (if y < x then 1 else 0), .bool true] := do_is y x hy hx 8
  have h8 : CA 11 [.int .i64 5, .int .u32 x, .int .u32 y] = some [.int .u32 ((x &&& y : Nat) : Int), .bool true] := do_is x y hx hy 5
  have h9 := bytes_is x
  have h10 : CA 16 [.sl (byteL x)] = some [.int .u32 x] := by
    have hb : byteL x = bytesD [x / 16777216 % 256, x / 65536 % 256, x / 256 % 256, x % 256] := rfl
    rw [hb, of_is _ _ (.inl rfl) (fun b hb => by simp at hb; omega)]
    have : ofN [x / 16777216 % 256, x / 65536 % 256, x / 256 % 256, x % 256] = x := by
      simp only [ofN, at0, List.getElem?_cons_zero, List.getElem?_cons_succ, Option.getD_some]
      omega
    rw [this]
  have hle1 : (x &&& y) ≤ x := Nat.and_le_left
  have hle2 : (x &&& y) ≤ y := Nat.and_le_right
  have hl1 : Prim.run (.bin .leq) [.int .u32 ((x &&& y : Nat) : Int), .int .u32 x] = some (.bool true) := by
    simp only [Prim.run, binD, binI, if_true]
    congr 2
    simp; omega
  have hl2 : Prim.run (.bin .leq) [.int .u32 ((x &&& y : Nat) : Int), .int .u32 y] = some (.bool true) := by
    simp only [Prim.run, binD, binI, if_true]
    congr 2
    simp; omega
  have hnot : Prim.run (.un .not) [.bool true] = some (.bool false) := rfl
  have heq : ∀ (k : IntKind) (a : Int), Prim.run (.bin .eql) [.int k a, .int k a] = some (.bool true) := fun k a => by simp [Prim.run, binD, binI]
  have hs : ∃ q : Int, Prim.run (.bin .add) [.int .u32 (if x = y then 1 else 0), .int .u32 (if x < y then 1 else 0)] = some (.int .u32 q) ∧ Prim.run (.bin .add) [.int .u32 q, .int .u32 (if y < x then 1 else 0)] = some (.int .u32 1) := by
    rcases Nat.lt_trichotomy x y with h | h | h
    · refine ⟨1, ?_, ?_⟩
      · rw [if_neg (by omega), if_pos h]; rfl
      · rw [if_neg (by omega)]; rfl
    · refine ⟨1, ?_, ?_⟩
      · rw [if_pos h, if_neg (by omega)]; rfl
      · rw [if_neg (by omega)]; rfl
    · refine ⟨0, ?_, ?_⟩
      · rw [if_neg (by omega), if_neg (by omega)]; rfl
      · rw [if_pos h]; rfl
  obtain ⟨q, hq1, hq2⟩ := hs
  generalize (((x + y) % 4294967296 : Nat) : Int) = S at h1 h2
  generalize ((x ^^^ y : Nat) : Int) = Z at h3 h4
  generalize ((x &&& y : Nat) : Int) = M at h8 hl1 hl2
  generalize (if x = y then (1 : Int) else 0) = e1 at h5 hq1
  generalize (if x < y then (1 : Int) else 0) = e2 at h6 hq1
  generalize (if y < x then (1 : Int) else 0) = e3 at h7 hq2
  simp [T4, evL_prim, evL_ite, evL_jmp, evL_call, evL_sub, gets, At.get, awake1, h1, h2, h3, h4, h5, h6, h7, h8, h9, h10, hl1, hl2, hnot, heq, hq1, hq2]

theorem word_place (x w : Nat) (hx : x < 4294967296) (hw : w < 256) : CA 5 [.int .u32 x, .int .u8 w] = some [.bool true] := by
  rw [call_of t5]
  have hnot : Prim.run (.un .not) [.bool true] = some (.bool false) := rfl
  have heq : ∀ (k : IntKind) (a b : Int), Prim.run (.bin .eql) [.int k a, .int k b] = some (.bool (a == b)) := fun k a b => by simp [Prim.run, binD, binI]
  by_cases h0 : w = 0
  · subst h0
    have h1 : CA 13 [.int .u32 x, .int .i64 0] = some [.int .i64 0] := place_is x hx 0 (by omega)
    simp [T5, evL_prim, evL_ite, evL_jmp, evL_call, gets, At.get, awake1, hnot, heq, h1]
  · have hc : Prim.run (.conv .i64) [.int .u8 w] = some (.int .i64 w) := by simp only [Prim.run, wrapS64 (by omega : -9223372036854775808 ≤ (w : Int)) (by omega)]
    have h1 : CA 13 [.int .u32 x, .int .i64 w] = some [.int .i64 ((x % w : Nat) : Int)] := by
      rw [place_is x hx w (by omega), if_neg (by omega)]
      rfl
    have hlt : x % w < w := Nat.mod_lt _ (by omega)
    have hw0 : ((w : Int) == 0) = false := by simp; omega
    have hl : Prim.run (.bin .lss) [.int .i64 ((x % w : Nat) : Int), .int .i64 0] = some (.bool false) := by
      simp only [Prim.run, binD, binI, if_true]
      congr 2

    have hg : Prim.run (.bin .geq) [.int .i64 ((x % w : Nat) : Int), .int .i64 w] = some (.bool false) := by
      simp only [Prim.run, binD, binI, if_true]
      congr 2
      simp; omega
    by_cases hm : x = 4294967295
    · subst hm
      generalize ((4294967295 % w : Nat) : Int) = A at h1 hl hg
      have h1 : CA 13 [.int .u32 4294967295, .int .i64 w] = some [.int .i64 A] := h1
      simp [T5, evL_prim, evL_ite, evL_jmp, evL_call, evL_sub, gets, At.get, awake1, hnot, heq, hc, h1, hw0, hl, hg]
    · have hxm : ((x : Int) == 4294967295) = false := by simp; omega
      have ha : Prim.run (.bin .add) [.int .u32 x, .int .u32 1] = some (.int .u32 ((x + 1 : Nat) : Int)) := by
        simp only [Prim.run, binD, binI, if_true, wrap32]
        congr 2
        exact u32_id (by omega) (by omega)
      have h2 : CA 13 [.int .u32 ((x + 1 : Nat) : Int), .int .i64 w] = some [.int .i64 (((x + 1) % w : Nat) : Int)] := by
        rw [place_is (x + 1) (by omega) w (by omega), if_neg (by omega)]
        rfl
      have hb : Prim.run (.bin .add) [.int .i64 ((x % w : Nat) : Int), .int .i64 1] = some (.int .i64 ((x % w + 1 : Nat) : Int)) := by
        simp only [Prim.run, binD, binI, if_true, wrapS64 (by omega : -9223372036854775808 ≤ ((x % w : Nat) : Int) + 1) (by omega)]
        rfl
      have hs : Prim.run (.bin .sub) [.int .i64 w, .int .i64 1] = some (.int .i64 ((w - 1 : Nat) : Int)) := by
        simp only [Prim.run, binD, binI, if_true, wrapS64 (by omega : -9223372036854775808 ≤ (w : Int) - 1) (by omega)]
        congr 2
        omega
      by_cases hz : (x + 1) % w = x % w + 1
      · rw [hz] at h2
        generalize ((x % w + 1 : Nat) : Int) = B at h2 hb
        generalize ((x % w : Nat) : Int) = A at h1 hl hg hb
        generalize ((x + 1 : Nat) : Int) = X at ha h2
        simp [T5, evL_prim, evL_ite, evL_jmp, evL_call, evL_sub, gets, At.get, awake1, hnot, heq, hc, h1, hw0, hl, hg, hxm, ha, h2, hb]
      · have hz1 : (x + 1) % w = 0 ∧ x % w = w - 1 := by
          rw [Nat.add_mod] at hz ⊢
          rcases Nat.lt_or_ge w 2 with h | h
          · have : w = 1 := by omega
            subst this
            omega
          · rw [Nat.mod_eq_of_lt (by omega : 1 < w)] at hz ⊢
            rcases Nat.lt_or_ge (x % w + 1) w with h' | h'
            · rw [Nat.mod_eq_of_lt h'] at hz
              exact absurd rfl hz
            · have : x % w + 1 = w := by omega
              rw [this, Nat.mod_self]
              omega
        have e1 : ((((x + 1) % w : Nat) : Int) == ((x % w + 1 : Nat) : Int)) = false := by simp only [beq_eq_false_iff_ne, ne_eq]; omega
        have e2 : (((x % w : Nat) : Int) == ((w - 1 : Nat) : Int)) = true := by rw [hz1.2]; simp
        have e3 : ((((x + 1) % w : Nat) : Int) == 0) = true := by rw [hz1.1]; rfl
        generalize ((x % w + 1 : Nat) : Int) = B at hb e1
        generalize ((x % w : Nat) : Int) = A at h1 hl hg hb e2
        generalize ((w - 1 : Nat) : Int) = W at hs e2
        generalize (((x + 1) % w : Nat) : Int) = Y at h2 e1 e3
        generalize ((x + 1 : Nat) : Int) = X at ha h2
        simp [T5, evL_prim, evL_ite, evL_jmp, evL_call, evL_sub, gets, At.get, awake1, hnot, heq, hc, h1, hw0, hl, hg, hxm, ha, h2, hb, hs, e1, e2, e3]

end Go.Proofs.Ytkgflipalefmfaa
