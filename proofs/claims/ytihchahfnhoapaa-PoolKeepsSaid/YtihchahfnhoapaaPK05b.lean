/- Layer 5: turned bits are seen: the sum of a list in which one or two bits were turned isn't what it was. In plain numbers. -/
import Derived.Test.YtihchahfnhoapaaPK05
set_option linter.unusedSimpArgs false
set_option linter.unusedVariables false
namespace Go.Proofs.Ytihchahfnhoapaa
open Go.SX

theorem not_xor {x : Nat} (hx : x < 4294967296) : 4294967295 - x = 4294967295 ^^^ x := by
  have h1 : (BitVec.allOnes 32 ^^^ BitVec.ofNat 32 x).toNat = 4294967295 - x := by
    rw [BitVec.allOnes_xor, BitVec.toNat_not, BitVec.toNat_ofNat, Nat.mod_eq_of_lt (by simpa using hx)]
  have h2 : (BitVec.allOnes 32 ^^^ BitVec.ofNat 32 x).toNat = 4294967295 ^^^ x := by
    rw [BitVec.toNat_xor, BitVec.toNat_ofNat, Nat.mod_eq_of_lt (by simpa using hx)]
    rfl
  rw [← h1, h2]
theorem put_mod {x y : Nat} (hy : y < 256) : (x * 256 + y) % 256 = y := by omega
theorem put_div {x y : Nat} (hy : y < 256) : (x * 256 + y) / 256 = x := by omega
theorem xor_parts (a b : Nat) : a ^^^ b = (a / 256 ^^^ b / 256) * 256 + (a % 256 ^^^ b % 256) := by
  have h1 : (a ^^^ b) % 2 ^ 8 = a % 2 ^ 8 ^^^ b % 2 ^ 8 := Nat.xor_mod_two_pow
  have h2 : (a ^^^ b) >>> 8 = a >>> 8 ^^^ b >>> 8 := Nat.shiftRight_xor_distrib
  simp only [Nat.shiftRight_eq_div_pow, Nat.reducePow] at h1 h2
  have h3 := Nat.div_add_mod (a ^^^ b) 256
  rw [h1, h2, Nat.mul_comm] at h3
  exact h3.symm
theorem xor_put {x x' y y' : Nat} (hy : y < 256) (hy' : y' < 256) : (x * 256 + y) ^^^ (x' * 256 + y') = (x ^^^ x') * 256 + (y ^^^ y') :=
  (xor_parts _ _).trans (by rw [put_mod hy, put_mod hy', put_div hy, put_div hy'])
theorem ofN_xor {a b c d a' b' c' d' : Nat} (hb : b < 256) (hc : c < 256) (hd : d < 256) (hb' : b' < 256) (hc' : c' < 256) (hd' : d' < 256) : ofN (a ^^^ a') (b ^^^ b') (c ^^^ c') (d ^^^ d') = ofN a b c d ^^^ ofN a' b' c' d' := by
  unfold ofN
  rw [xor_put hd hd', xor_put hc hc', xor_put hb hb']

/-- The sum that a frame holds, and whether it is that of what it holds. -/
def tailN (l : List Nat) : Nat := ofN (l.getD 15 0) (l.getD 16 0) (l.getD 17 0) (l.getD 18 0)
def wholeN (l : List Nat) : Prop := tailN l = crcN (l.take 15)
def xorL (l m : List Nat) : List Nat := List.zipWith (· ^^^ ·) l m
/-- What an error does to it. -/
def synd (e : List Nat) : Nat := crcF 0 (e.take 15) ^^^ tailN e
structure Byte19 (l : List Nat) : Prop where
  len : l.length = 19
  lt : ∀ x ∈ l, x < 256
theorem getD_lt {l : List Nat} (h : Byte19 l) (i : Nat) : l.getD i 0 < 256 := by
  rw [List.getD_eq_getElem?_getD]
  cases e : l[i]? with
  | none => simp
  | some x => exact h.lt x (List.mem_of_getElem? e)
theorem xorL_byte {l m : List Nat} (h : Byte19 l) (h' : Byte19 m) : Byte19 (xorL l m) := by
  refine ⟨by unfold xorL; rw [List.length_zipWith, h.len, h'.len]; rfl, fun x hx => ?_⟩
  unfold xorL at hx
  obtain ⟨i, hi, rfl⟩ := List.getElem_of_mem hx
  rw [List.getElem_zipWith]
  rw [List.length_zipWith] at hi
  exact Nat.xor_lt_two_pow (n := 8) (by simpa using h.lt _ (List.getElem_mem (by omega))) (by simpa using h'.lt _ (List.getElem_mem (by omega)))
theorem xorL_getD {l m : List Nat} (h : Byte19 l) (h' : Byte19 m) {i : Nat} (hi : i < 19) : (xorL l m).getD i 0 = l.getD i 0 ^^^ m.getD i 0 := by
  have h1 := h.len
  have h2 := h'.len
  have h3 := (xorL_byte h h').len
  rw [List.getD_eq_getElem?_getD, List.getD_eq_getElem?_getD, List.getD_eq_getElem?_getD, List.getElem?_eq_getElem (by omega), List.getElem?_eq_getElem (by omega), List.getElem?_eq_getElem (by omega)]
  simp [xorL]
theorem tailN_xor {l m : List Nat} (h : Byte19 l) (h' : Byte19 m) : tailN (xorL l m) = tailN l ^^^ tailN m := by
  unfold tailN
  rw [xorL_getD h h' (by omega), xorL_getD h h' (by omega), xorL_getD h h' (by omega), xorL_getD h h' (by omega)]
  exact ofN_xor (getD_lt h _) (getD_lt h _) (getD_lt h _) (getD_lt h' _) (getD_lt h' _) (getD_lt h' _)
theorem xorL_take (l m : List Nat) (k : Nat) : (xorL l m).take k = xorL (l.take k) (m.take k) := by
  unfold xorL
  exact List.take_zipWith
theorem synd_xor {l m : List Nat} (h : Byte19 l) (h' : Byte19 m) : synd (xorL l m) = synd l ^^^ synd m := by
  unfold synd
  have h1 : crcF 0 ((xorL l m).take 15) = crcF 0 (l.take 15) ^^^ crcF 0 (m.take 15) := by
    rw [xorL_take]
    have := crcF_xor (l.take 15) (m.take 15) 0 0 (by simp [h.len, h'.len])
    rw [Nat.xor_self] at this
    exact this
  rw [h1, tailN_xor h h']
  ac_rfl
theorem crcN_xor {l m : List Nat} (h : Byte19 l) (h' : Byte19 m) : crcN ((xorL l m).take 15) = crcN (l.take 15) ^^^ crcF 0 (m.take 15) := by
  have h1 : crcF 4294967295 ((xorL l m).take 15) = crcF 4294967295 (l.take 15) ^^^ crcF 0 (m.take 15) := by
    rw [xorL_take]
    have := crcF_xor (l.take 15) (m.take 15) 4294967295 0 (by simp [h.len, h'.len])
    rw [Nat.xor_zero] at this
    exact this
  have b1 := crcF_lt (l.take 15) (n := 4294967295) (by omega) fun x hx => h.lt x (List.mem_of_mem_take hx)
  have b2 := crcF_lt (m.take 15) (n := 0) (by omega) fun x hx => h'.lt x (List.mem_of_mem_take hx)
  unfold crcN
  rw [h1, not_xor (xor_lt _ _ b1 b2), not_xor b1, Nat.xor_assoc]
theorem xor_cancel {a b : Nat} (h : a ^^^ b = 0) : a = b := by
  have h1 : (a ^^^ b) ^^^ b = a := by rw [Nat.xor_assoc, Nat.xor_self, Nat.xor_zero]
  rw [h, Nat.zero_xor] at h1
  exact h1.symm
theorem whole_xor {l m : List Nat} (h : Byte19 l) (h' : Byte19 m) (hw : wholeN l) (hx : wholeN (xorL l m)) : synd m = 0 := by
  unfold wholeN at hw hx
  rw [tailN_xor h h', crcN_xor h h', hw] at hx
  unfold synd
  have h1 : crcN (l.take 15) ^^^ (crcN (l.take 15) ^^^ tailN m) = crcN (l.take 15) ^^^ (crcN (l.take 15) ^^^ crcF 0 (m.take 15)) := by rw [hx]
  rw [← Nat.xor_assoc, ← Nat.xor_assoc, Nat.xor_self, Nat.zero_xor, Nat.zero_xor] at h1
  rw [h1, Nat.xor_self]

/-- One bit. -/
def unitN (p : Nat) : List Nat := (List.replicate 19 0).set (p / 8) (2 ^ (p % 8))
theorem pow8 (p : Nat) : 2 ^ (p % 8) < 256 := Nat.pow_lt_pow_right (a := 2) (n := 8) (by omega) (by omega)
theorem unitN_byte (p : Nat) : Byte19 (unitN p) := by
  refine ⟨by simp [unitN], fun x hx => ?_⟩
  unfold unitN at hx
  rcases List.mem_or_eq_of_mem_set hx with h | h
  · rw [List.eq_of_mem_replicate h]; omega
  · rw [h]; exact pow8 p
theorem turn_is {l : List Nat} (h : Byte19 l) (p : Nat) (hp : p < 152) : l.set (p / 8) (l.getD (p / 8) 0 ^^^ 2 ^ (p % 8)) = xorL l (unitN p) := by
  have hl := h.len
  apply List.ext_getElem
  · rw [List.length_set, (xorL_byte h (unitN_byte p)).len, hl]
  · intro i h1 h2
    rw [List.length_set] at h1
    have hz : (xorL l (unitN p))[i] = l[i] ^^^ (unitN p)[i]'(by rw [(unitN_byte p).len]; omega) := by
      show (List.zipWith (· ^^^ ·) l (unitN p))[i]'(h2) = _
      exact List.getElem_zipWith
    have hu : (unitN p)[i]'(by rw [(unitN_byte p).len]; omega) = if p / 8 = i then 2 ^ (p % 8) else 0 := by
      show ((List.replicate 19 0).set (p / 8) (2 ^ (p % 8)))[i]'(by simp; omega) = _
      rw [List.getElem_set, List.getElem_replicate]
    rw [hz, hu, List.getElem_set]
    by_cases hi : p / 8 = i
    · subst hi
      rw [if_pos rfl, if_pos rfl, List.getD_eq_getElem?_getD, List.getElem?_eq_getElem h1]
      rfl
    · rw [if_neg hi, if_neg hi, Nat.xor_zero]
def syndL : List Nat := [3120290792, 2827399569, 2323408227, 3481914503, 1147313999, 2294627998, 3405478781, 1317531835, 2635063670, 3782132909, 430739227, 861478454, 1722956908, 3445913816, 1102706673, 2205413346, 3717650821, 1616688459, 3233376918, 1510200173, 3020400346, 3011398645, 3180171691, 2691310871, 2611301487, 3963330207, 50740095, 101480190, 202960380, 405920760, 811841520, 1623683040, 3247366080, 1483520449, 2967040898, 3133399365, 2935407819, 2258407383, 3595049455, 2011248031, 4022496062, 83218493, 166436986, 332873972, 665747944, 1331495888, 2662991776, 3859089665, 393942083, 787884166, 1575768332, 3151536664, 2898281073, 2196865699, 3734110983, 1716846671, 3433693342, 1109723005, 2219446010, 3555007413, 2092642603, 4185285206, 698204909, 1396409818, 2792819636, 2543784233, 4098827283, 871321191, 1742642382, 3485284764, 1141601657, 2283203314, 3411858341, 1304994059, 2609988118, 3964895853, 64357019, 128714038, 257428076, 514856152, 1029712304, 2059424608, 4118849216, 812665793, 1625331586, 3250663172, 1492342857, 2984685714, 3099354981, 2852767883, 2405603159, 3316918511, 1343838111, 2687676222, 2601801789, 3982079547, 29518391, 59036782, 118073564, 236147128, 472294256, 944588512, 1889177024, 3778354048, 421212481, 842424962, 1684849924, 3369699848, 1254232657, 2508465314, 4034481925, 998479947, 1996959894, 3993919788, 124634137, 249268274, 498536548, 997073096, 1994146192, 3988292384, 16777216, 33554432, 67108864, 134217728, 268435456, 536870912, 1073741824, 2147483648, 65536, 131072, 262144, 524288, 1048576, 2097152, 4194304, 8388608, 256, 512, 1024, 2048, 4096, 8192, 16384, 32768, 1, 2, 4, 8, 16, 32, 64, 128]
set_option maxRecDepth 100000 in
theorem syndL_is : (List.range 152).map (fun p => synd (unitN p)) = syndL := by decide +kernel
set_option maxRecDepth 100000 in
theorem syndL_nodup : (0 :: syndL).Nodup := by decide +kernel
theorem synd_get {p : Nat} (hp : p < 152) : syndL[p]? = some (synd (unitN p)) := by
  rw [← syndL_is, List.getElem?_map, List.getElem?_range hp]
  rfl
theorem synd_zero {p : Nat} (hp : p < 152) : synd (unitN p) ≠ 0 := by
  intro h
  have h1 := List.mem_of_getElem? (synd_get hp)
  rw [h] at h1
  exact (List.nodup_cons.1 syndL_nodup).1 h1
theorem synd_two {p q : Nat} (hp : p < 152) (hq : q < 152) (h : synd (unitN p) = synd (unitN q)) : p = q := by
  have h1 := synd_get hp
  have h2 := synd_get hq
  rw [h, ← h2] at h1
  have hl : syndL.length = 152 := by rw [← syndL_is]; simp
  exact (List.getElem?_inj (by omega) (List.nodup_cons.1 syndL_nodup).2).1 h1

theorem turn_one {l : List Nat} (h : Byte19 l) (hw : wholeN l) {p : Nat} (hp : p < 152) : ¬ wholeN (xorL l (unitN p)) := fun hx =>
  synd_zero hp (whole_xor h (unitN_byte p) hw hx)
theorem xorL_assoc {l m n : List Nat} (h : Byte19 l) (h' : Byte19 m) (h'' : Byte19 n) : xorL (xorL l m) n = xorL l (xorL m n) := by
  have a1 := h.len
  have a2 := h'.len
  have a3 := h''.len
  apply List.ext_getElem
  · rw [(xorL_byte (xorL_byte h h') h'').len, (xorL_byte h (xorL_byte h' h'')).len]
  · intro i h1 h2
    have z : ∀ (a b : List Nat) (h : i < (xorL a b).length) (h1 : i < a.length) (h2 : i < b.length), (xorL a b)[i] = a[i] ^^^ b[i] := fun a b h _ _ => by
      show (List.zipWith (· ^^^ ·) a b)[i]'(h) = _
      exact List.getElem_zipWith
    have b1 := (xorL_byte h h').len
    have b2 := (xorL_byte h' h'').len
    have b3 := (xorL_byte (xorL_byte h h') h'').len
    rw [z _ n h1 (by omega) (by omega), z l m (by omega) (by omega) (by omega), z l _ h2 (by omega) (by omega), z m n (by omega) (by omega) (by omega)]
    exact Nat.xor_assoc _ _ _
theorem turn_two {l : List Nat} (h : Byte19 l) (hw : wholeN l) {p q : Nat} (hp : p < 152) (hq : q < 152) (hpq : p ≠ q) : ¬ wholeN (xorL (xorL l (unitN p)) (unitN q)) := fun hx => by
  rw [xorL_assoc h (unitN_byte p) (unitN_byte q)] at hx
  have h1 := whole_xor h (xorL_byte (unitN_byte p) (unitN_byte q)) hw hx
  rw [synd_xor (unitN_byte p) (unitN_byte q)] at h1
  exact hpq (synd_two hp hq (xor_cancel h1))

end Go.Proofs.Ytihchahfnhoapaa
